/- The second reading of some of the program's functions, printed by gen2.py off the code; each is held against the code by the kernel. -/
import Derived.Test.YthldnpmfelniiaaDoorProg
import Derived.Test.YthldnpmfelniiaaDoorzXK0
import Derived.KernelRfl
namespace Go.Proofs.YthldnpmfelniiaaDoor
open Go.RowKit
set_option maxRecDepth 100000
def h5 : Hint := (.seq .none (.seq (.seq .none (.cond (.seq .none .none) .none)) (.seq .none .none)))
def F7 (x0 x1 : Value) (w : World) (R : Value → World → Prop) (E : Pan) : Prop :=
 opK Tryd.prog E (xV (Instr.box 25 x0)) w fun a4h w_2 =>
 opK Tryd.prog E (xCall (Value.func (.func 21) #[] #[]) []) w_2 fun c0c w_4 =>
 opK Tryd.prog E (xV (Op.unary .not c0c)) w_4 fun c0d w_6 =>
 xcond c0d
 (R (Value.bool false) w_6)
 (opK Tryd.prog E (xV (Instr.loadAt 25 a4h)) w_6 fun g2N w_8 =>
 opK Tryd.prog E (xCall (Value.func (.func 31) #[] #[]) [g2N]) w_8 fun e0h m2 =>
 opK Tryd.prog E (xV (Instr.extract e0h 0)) m2 fun f5y m8 =>
 opK Tryd.prog E (xV (Instr.extract e0h 1)) m8 fun c3Y m5 =>
 opK Tryd.prog E (xV (Instr.loadAt 25 a4h)) m5 fun f5z o6 =>
 opK Tryd.prog E (xCall (Value.func (.func 32) #[] #[]) [f5z]) o6 fun b3c p8 =>
 opK Tryd.prog E (xV (Instr.extract b3c 0)) p8 fun c6d o4 =>
 opK Tryd.prog E (xV (Instr.extract b3c 1)) o4 fun d4T r6 =>
 opK Tryd.prog E (xV (Instr.loadAt 25 a4h)) r6 fun f5A q6 =>
 opK Tryd.prog E (xCall (Value.func (.func 33) #[] #[]) [f5A]) q6 fun d4U u1 =>
 opK Tryd.prog E (xV (Instr.extract d4U 0)) u1 fun f5B w9 =>
 opK Tryd.prog E (xV (Instr.extract d4U 1)) w9 fun c3j z6 =>
 opK Tryd.prog E (xV (Instr.loadAt 25 a4h)) z6 fun f5C w8 =>
 opK Tryd.prog E (xCall (Value.func (.func 34) #[] #[]) [f5C]) w8 fun b9e z7 =>
 opK Tryd.prog E (xV (Instr.extract b9e 0)) z7 fun f5D B3 =>
 opK Tryd.prog E (xV (Instr.extract b9e 1)) B3 fun _t34_37 w3 =>
 opK Tryd.prog E (xBin .eql 3 (.tmp 35) (.tmp 36) c3Y d4T) w3 fun c0p B8 =>
 opK Tryd.prog E (gsem (asB c0p) true (xBin .eql 3 (.tmp 39) (.tmp 40) (gval (asB c0p) true c3j) (gval (asB c0p) true d4T))) B8 fun f5E C7 =>
 opK Tryd.prog E (xPick c0p f5E (Value.bool false)) C7 fun c0q B9 =>
 opK Tryd.prog E (gsem (asB c0q) true (xCall (Value.func (.func 35) #[] #[]) [(gval (asB c0q) true f5y), (gval (asB c0q) true c6d)])) B9 fun f5F D4 =>
 opK Tryd.prog E (xPick c0q f5F (Value.bool false)) D4 fun c0r E6 =>
 opK Tryd.prog E (gsem (asB c0r) true (xBin .eql 41 (.tmp 49) (.tmp 50) (gval (asB c0r) true f5B) (gval (asB c0r) true f5D))) E6 fun f5G D7 =>
 opK Tryd.prog E (xPick c0r f5G (Value.bool false)) D7 fun b3r D8 =>
 opK Tryd.prog E (gsem (asB b3r) true (xCall (Value.func (.func 22) #[] #[]) [(gval (asB b3r) true x1)])) D8 fun f5H I9 =>
 opK Tryd.prog E (gsem (asB b3r) true (xCall (Value.func (.func 36) #[] #[]) [(gval (asB b3r) true x1)])) I9 fun f5I K7 =>
 opK Tryd.prog E (gsem (asB b3r) true (xBin .eql 41 (.tmp 55) (.tmp 57) f5H f5I)) K7 fun f5J H9 =>
 opK Tryd.prog E (xPick b3r f5J (Value.bool false)) H9 fun f5K J1 =>
 R f5K J1)
noncomputable def c7 : Code := Tryd.f7.body.getD .skip
def h7 : Hint := (.seq .none (.seq (.seq .none (.cond (.seq .none .none) .none)) (.seq .none (.seq .none (.seq .none (.seq .none (.seq .none .none)))))))
theorem g2O (x0 x1 : Value) (w : World) (R : Value → World → Prop) (E : Pan) : F7 x0 x1 w R E = callX Tryd.prog [.tmp 4] c7 h7 [x0, x1] w R E := by kernel_rfl
theorem g2P {x0 x1 : Value} {w : World} {R : Value → World → Prop} {E : Pan} (h : F7 x0 x1 w R E) : Cv Tryd.prog 7 #[x0, x1] w R E := by
 refine h8 (args := [x0, x1]) (c := c7) (h := h7) (rs := [.tmp 4]) Tryd.func7 (by kernel_rfl) (by kernel_rfl) (Nat.le_of_ble_eq_true (by kernel_rfl)) (by kernel_rfl) (by kernel_rfl) (by kernel_rfl) ?_
 rw [← g2O]
 exact h
def F21 (w : World) (R : Value → World → Prop) (E : Pan) : Prop :=
 opK Tryd.prog E (xV (Instr.build 67 #[(0, (Value.string ⟨#[120]⟩))])) w fun a4S w_2 =>
 opK Tryd.prog E (xV (Instr.buildSlice 22 1 #[(0, a4S)])) w_2 fun b3O w_4 =>
 opK Tryd.prog E (xV (Instr.build 25 #[(0, b3O)])) w_4 fun a8V w_6 =>
 opK Tryd.prog E (xCall (Value.func (.func 31) #[] #[]) [a8V]) w_6 fun b2B w_8 =>
 opK Tryd.prog E (xV (Instr.extract b2B 0)) w_8 fun a9M m2 =>
 opK Tryd.prog E (xV (Instr.extract b2B 1)) m2 fun b0g m8 =>
 opK Tryd.prog E (xBin .eql 34 (.tmp 10) (.const (Value.int .i64 0)) b0g (Value.int .i64 0)) m8 fun a9z m5 =>
 opK Tryd.prog E (gsem (asB a9z) true (xBuiltin .len #[40] 3 [false] [(gval (asB a9z) true a9M)])) m5 fun b5r o6 =>
 opK Tryd.prog E (gsem (asB a9z) true (xBin .eql 3 (.tmp 14) (.const (Value.int .i64 16)) b5r (Value.int .i64 16))) o6 fun c6E p8 =>
 opK Tryd.prog E (xPick a9z c6E (Value.bool false)) p8 fun b1K o4 =>
 opK Tryd.prog E (gsem (asB b1K) true (xV (Instr.indexAt 40 (gval (asB b1K) true a9M) (Value.int .i64 0)))) o4 fun a7P r6 =>
 opK Tryd.prog E (gsem (asB b1K) true (xV (Instr.loadAt 5 a7P))) r6 fun a7Q q6 =>
 opK Tryd.prog E (gsem (asB b1K) true (xBin .eql 5 (.tmp 20) (.const (Value.int .u8 68)) a7Q (Value.int .u8 68))) q6 fun c3D u1 =>
 opK Tryd.prog E (xPick b1K c3D (Value.bool false)) u1 fun b0P w9 =>
 opK Tryd.prog E (gsem (asB b0P) true (xV (Instr.buildSlice 40 1 #[(0, (Value.int .u8 97))]))) w9 fun c6F z6 =>
 opK Tryd.prog E (gsem (asB b0P) true (xV (convert 40 40 c6F))) z6 fun c6G w8 =>
 opK Tryd.prog E (gsem (asB b0P) true (xCall (Value.func (.func 22) #[] #[]) [c6G])) w8 fun b6y z7 =>
 opK Tryd.prog E (gsem (asB b0P) true (xBin .eql 41 (.tmp 26) (.const (Value.int .u64 12638187200555641996)) b6y (Value.int .u64 12638187200555641996))) z7 fun c6H B3 =>
 opK Tryd.prog E (xPick b0P c6H (Value.bool false)) B3 fun c6I w3 =>
 R c6I w3
noncomputable def c21 : Code := Tryd.f21.body.getD .skip
def h21 : Hint := (.seq .none (.seq .none (.seq .none .none)))
theorem f5L (w : World) (R : Value → World → Prop) (E : Pan) : F21  w R E = callX Tryd.prog [.tmp 0] c21 h21 [] w R E := by kernel_rfl
theorem f5M {w : World} {R : Value → World → Prop} {E : Pan} (h : F21  w R E) : Cv Tryd.prog 21 #[] w R E := by
 refine h8 (args := []) (c := c21) (h := h21) (rs := [.tmp 0]) Tryd.func21 (by kernel_rfl) (by kernel_rfl) (Nat.zero_le _) (by kernel_rfl) (by kernel_rfl) (by kernel_rfl) ?_
 rw [← f5L]
 exact h
def c6J (x3 : Value) (w : World) (R : Value → World → Prop) (_E : Pan) : Prop :=
 ∀ _τ : Fr, (R x3 w)
def d4V (x3 x6 x7 x8 : Value) (w : World) (next2 : List Value → World → Prop) (j1 : List Value → World → Prop) (_R : Value → World → Prop) (E : Pan) : Prop :=
 opK Tryd.prog E (xBin .lss 3 (.tmp 8) (.tmp 7) x8 x7) w fun b7L w_6 =>
 xcond b7L
 (opK Tryd.prog E (xV (Instr.indexAt 40 x6 x8)) w_6 fun c0s w_8 =>
 opK Tryd.prog E (xV (Instr.loadAt 5 c0s)) w_8 fun b9m m2 =>
 opK Tryd.prog E (xV (convert 5 41 b9m)) m2 fun c3f m8 =>
 opK Tryd.prog E (xBin .xor 41 (.tmp 12) (.tmp 14) x3 c3f) m8 fun a5p m5 =>
 opK Tryd.prog E (xBin .mul 41 (.tmp 15) (.const (Value.int .u64 1099511628211)) a5p (Value.int .u64 1099511628211)) m5 fun a7M o6 =>
 opK Tryd.prog E (xBin .add 3 (.tmp 8) (.const (Value.int .i64 1)) x8 (Value.int .i64 1)) o6 fun a7N p8 =>
 next2 [a7M, a7N] p8)
 (j1 [x3] w_6)
def F22 (x0 : Value) (w : World) (R : Value → World → Prop) (E : Pan) : Prop :=
 xcut (fun l_1 w_2 => c6J (nth l_1 0) w_2 R E) fun j1 =>
 opK Tryd.prog E (xBuiltin .len #[40] 3 [false] [x0]) w fun a3i w_4 =>
 xloop [3, 8] [(Value.int .u64 14695981039346656037), (Value.int .i64 0)] w_4 fun τ_19 o4 next2 =>
 d4V (τ_19 3) x0 a3i (τ_19 8) o4 next2 j1 R E
noncomputable def c22 : Code := Tryd.f22.body.getD .skip
def h22 : Hint := (.seq .none (.seq .none (.cut [3] (.seq .none (.block (.loop [3, 8] (.seq .none (.seq (.cond .none .none) (.seq (.block (.seq .none .none)) .none)))))) (.seq .none .none))))
theorem f5N (x0 : Value) (w : World) (R : Value → World → Prop) (E : Pan) : F22 x0 w R E = callX Tryd.prog [.tmp 2] c22 h22 [x0] w R E := by kernel_rfl
theorem f5O {x0 : Value} {w : World} {R : Value → World → Prop} {E : Pan} (h : F22 x0 w R E) : Cv Tryd.prog 22 #[x0] w R E := by
 refine h8 (args := [x0]) (c := c22) (h := h22) (rs := [.tmp 2]) Tryd.func22 (by kernel_rfl) (by kernel_rfl) (Nat.le_of_ble_eq_true (by kernel_rfl)) (by kernel_rfl) (by kernel_rfl) (by kernel_rfl) ?_
 rw [← f5N]
 exact h
def c6K (x1 x5 x9 : Value) (w : World) (R : Value → World → Prop) (E : Pan) : Prop :=
 ∀ _τ : Fr, (opK Tryd.prog E (xV (Instr.loadAt 116 x9)) w fun c6L B3 =>
 opK Tryd.prog E (xV (Instr.fieldAt 25 x1 1)) B3 fun c6M w3 =>
 opK Tryd.prog E (xV (Instr.loadAt 23 c6M)) w3 fun f5P B8 =>
 opK Tryd.prog E (xCall c6L [f5P]) B8 fun _t39_41 C7 =>
 opK Tryd.prog E (xV (Instr.loadAt 40 x5)) C7 fun f5Q B9 =>
 R (Value.tuple #[f5Q, (Value.int .i64 0)]) B9)
def d4W (_x1 _x5 x6 _x9 x22 x23 x24 : Value) (w : World) (next2 : List Value → World → Prop) (j1 : List Value → World → Prop) (_R : Value → World → Prop) (E : Pan) : Prop :=
 opK Tryd.prog E (xBin .lss 3 (.tmp 24) (.tmp 23) x24 x23) w fun f5R I9 =>
 xcond f5R
 (opK Tryd.prog E (xV (Instr.indexAt 22 x22 x24)) I9 fun f5S K7 =>
 opK Tryd.prog E (xV (Instr.loadAt 67 f5S)) K7 fun f5T H9 =>
 opK Tryd.prog E (xV (Instr.alloc 67 true (.tuple #[]))) H9 fun c6N J1 =>
 opK Tryd.prog E (xU (Instr.storeAt 67 c6N f5T)) J1 fun _z_61 N9 =>
 opK Tryd.prog E (xV (Instr.loadAt 115 x6)) N9 fun c3n J7 =>
 opK Tryd.prog E (xV (Instr.fieldAt 67 c6N 1)) J7 fun f5U Q4 =>
 opK Tryd.prog E (xV (Instr.loadAt 3 f5U)) Q4 fun f5V V4 =>
 opK Tryd.prog E (xV (Instr.fieldAt 67 c6N 0)) V4 fun f5W K8 =>
 opK Tryd.prog E (xV (Instr.loadAt 9 f5W)) K8 fun f5X V9 =>
 opK Tryd.prog E (xV (Instr.build 114 #[])) V9 fun f5Y Y3 =>
 opK Tryd.prog E (xCall c3n [(Value.int .u8 68), (Value.int .i64 0), f5V, f5X, f5Y]) Y3 fun _t34_75 S7 =>
 opK Tryd.prog E (xBin .add 3 (.tmp 24) (.const (Value.int .i64 1)) x24 (Value.int .i64 1)) S7 fun c6i a0v =>
 next2 [c6i] a0v)
 (j1 [] I9)
def F31 (x0 : Value) (w : World) (R : Value → World → Prop) (E : Pan) : Prop :=
 opK Tryd.prog E (xV (Instr.box 25 x0)) w fun t8 w_2 =>
 opK Tryd.prog E (xV (Instr.loadAt 25 t8)) w_2 fun c9d w_4 =>
 opK Tryd.prog E (xCall (Value.func (.func 27) #[] #[]) [c9d]) w_4 fun c2u w_6 =>
 opK Tryd.prog E (xBin .neq 34 (.tmp 14) (.const (Value.int .i64 0)) c2u (Value.int .i64 0)) w_6 fun c0e w_8 =>
 xcond c0e
 (R (Value.tuple #[(Value.slice none 0 0), c2u]) w_8)
 (opK Tryd.prog E (xV (Instr.alloc 40 true (.tuple #[]))) w_8 fun d8Y m2 =>
 opK Tryd.prog E (xV (Instr.makeFunc (.func 68) #[] #[d8Y])) m2 fun b6z m8 =>
 opK Tryd.prog E (xV (Instr.alloc 115 true (.tuple #[]))) m8 fun c0t m5 =>
 opK Tryd.prog E (xU (Instr.storeAt 115 c0t b6z)) m5 fun _z_15 o6 =>
 opK Tryd.prog E (xV (Instr.alloc 103 true (.tuple #[]))) o6 fun c2F p8 =>
 opK Tryd.prog E (xV (Instr.makeFunc (.func 69) #[] #[c0t, c2F])) p8 fun a7O o4 =>
 opK Tryd.prog E (xU (Instr.storeAt 103 c2F a7O)) o4 fun _z_21 r6 =>
 opK Tryd.prog E (xV (Instr.alloc 108 true (.tuple #[]))) r6 fun d2d q6 =>
 opK Tryd.prog E (xV (Instr.makeFunc (.func 70) #[] #[c0t, c2F, d2d])) q6 fun c6O u1 =>
 opK Tryd.prog E (xU (Instr.storeAt 108 d2d c6O)) u1 fun _z_27 w9 =>
 opK Tryd.prog E (xV (Instr.alloc 116 true (.tuple #[]))) w9 fun c2G z6 =>
 opK Tryd.prog E (xV (Instr.makeFunc (.func 71) #[] #[c0t, d2d, c2F, c2G])) z6 fun b5T w8 =>
 opK Tryd.prog E (xU (Instr.storeAt 116 c2G b5T)) w8 fun _z_33 z7 =>
 xcut (fun _ D4 => c6K t8 d8Y c2G D4 R E) fun j1 =>
 opK Tryd.prog E (xV (Instr.fieldAt 25 t8 0)) z7 fun f5Z E6 =>
 opK Tryd.prog E (xV (Instr.loadAt 22 f5Z)) E6 fun d4X D7 =>
 opK Tryd.prog E (xBuiltin .len #[22] 3 [false] [d4X]) D7 fun c6P D8 =>
 xloop [24] [(Value.int .i64 0)] D8 fun τ_79 Z0 next2 =>
 d4W t8 d8Y c0t c2G d4X c6P (τ_79 24) Z0 next2 j1 R E)
noncomputable def c31 : Code := Tryd.f31.body.getD .skip
def h31 : Hint := (.seq .none (.seq (.seq .none (.seq .none (.cond (.seq .none .none) .none))) (.seq .none (.seq .none (.seq .none (.seq .none (.seq .none (.seq .none (.seq .none (.seq .none (.cut [] (.seq .none (.block (.loop [24] (.seq .none (.seq (.cond .none .none) (.seq (.block (.seq .none .none)) .none)))))) (.seq .none (.seq .none .none)))))))))))))
theorem f6a (x0 : Value) (w : World) (R : Value → World → Prop) (E : Pan) : F31 x0 w R E = callX Tryd.prog [.tmp 2, .tmp 3] c31 h31 [x0] w R E := by kernel_rfl
theorem f6b {x0 : Value} {w : World} {R : Value → World → Prop} {E : Pan} (h : F31 x0 w R E) : Cv Tryd.prog 31 #[x0] w R E := by
 refine h8 (args := [x0]) (c := c31) (h := h31) (rs := [.tmp 2, .tmp 3]) Tryd.func31 (by kernel_rfl) (by kernel_rfl) (Nat.le_of_ble_eq_true (by kernel_rfl)) (by kernel_rfl) (by kernel_rfl) (by kernel_rfl) ?_
 rw [← f6a]
 exact h
def c6Q (x1 x5 : Value) (w : World) (R : Value → World → Prop) (E : Pan) : Prop :=
 ∀ _τ : Fr, (opK Tryd.prog E (xV (Instr.fieldAt 25 x1 1)) w fun g2Q m2 =>
 opK Tryd.prog E (xV (Instr.loadAt 23 g2Q)) m2 fun f6c m8 =>
 opK Tryd.prog E (xCall (Value.func (.func 73) #[] #[]) [x5, f6c]) m8 fun f6d m5 =>
 R (Value.tuple #[f6d, (Value.int .i64 0)]) m5)
def d4Y (x1 x5 x6 : Value) (w : World) (next2 : List Value → World → Prop) (j1 : List Value → World → Prop) (_R : Value → World → Prop) (E : Pan) : Prop :=
 opK Tryd.prog E (xV (Instr.fieldAt 25 x1 0)) w fun b5Q p8 =>
 opK Tryd.prog E (xV (Instr.loadAt 22 b5Q)) p8 fun b5R o4 =>
 opK Tryd.prog E (xBuiltin .len #[22] 3 [false] [b5R]) o4 fun b0W r6 =>
 opK Tryd.prog E (xBin .lss 3 (.tmp 12) (.tmp 15) x6 b0W) r6 fun b5S q6 =>
 xcond b5S
 (dX q6 fun a4F =>
 qP Tryd.prog (xV (Instr.fieldAt 25 x1 0)) fun b9D =>
 qP Tryd.prog (xV (Instr.fieldAt 25 x1 0)) fun b2U =>
 qP Tryd.prog (xV (Instr.build 114 #[])) fun f6e =>
 qL Tryd.prog a4F (blk b9D) (xV (Instr.loadAt 22 b9D)) fun c4e =>
 qP Tryd.prog (xV (Instr.indexAt 22 c4e x6)) fun f6f =>
 qP Tryd.prog (xV (Instr.fieldAt 67 f6f 1)) fun b9n =>
 qL Tryd.prog a4F (blk b9n) (xV (Instr.loadAt 3 b9n)) fun f6g =>
 qP Tryd.prog (xV (convert 3 41 f6g)) fun b6y =>
 qL Tryd.prog a4F (blk b2U) (xV (Instr.loadAt 22 b2U)) fun f6h =>
 qP Tryd.prog (xV (Instr.indexAt 22 f6h x6)) fun f6i =>
 qP Tryd.prog (xV (Instr.fieldAt 67 f6i 0)) fun d4Z =>
 qL Tryd.prog a4F (blk d4Z) (xV (Instr.loadAt 9 d4Z)) fun f6j =>
 opK Tryd.prog E (xCall (Value.func (.func 72) #[] #[]) [x5, (Value.int .u8 68), (Value.int .i64 0), b6y, f6j, f6e]) a4F fun f6k b7F =>
 keepX [] a4F b7F (opK Tryd.prog E (xBin .add 3 (.tmp 17) (.const (Value.int .i64 1)) x6 (Value.int .i64 1)) b7F fun f6l b7G =>
 next2 [f6k, f6l] b7G))
 (j1 [x5] q6)
def F32 (x0 : Value) (w : World) (R : Value → World → Prop) (E : Pan) : Prop :=
 opK Tryd.prog E (xV (Instr.box 25 x0)) w fun t8 w_2 =>
 opK Tryd.prog E (xV (Instr.loadAt 25 t8)) w_2 fun a3i w_4 =>
 opK Tryd.prog E (xCall (Value.func (.func 23) #[] #[]) [a3i]) w_4 fun a6l w_6 =>
 opK Tryd.prog E (xBin .neq 3 (.tmp 9) (.const (Value.int .i64 0)) a6l (Value.int .i64 0)) w_6 fun c0s w_8 =>
 xcond c0s
 (R (Value.tuple #[(Value.slice none 0 0), a6l]) w_8)
 (xcut (fun a8a o6 => c6Q t8 (nth a8a 0) o6 R E) fun j1 =>
 xloop [5, 6] [(Value.slice none 0 0), (Value.int .i64 0)] w_8 fun τ_42 b5o next2 =>
 d4Y t8 (τ_42 5) (τ_42 6) b5o next2 j1 R E)
noncomputable def c32 : Code := Tryd.f32.body.getD .skip
def h32 : Hint := (.seq .none (.seq .none (.seq (.seq .none (.cond (.seq .none .none) .none)) (.seq .none (.cut [5] (.seq .none (.block (.loop [5, 6] (.seq (.seq .none (.cond .none .none)) (.seq (.block (.reg [(0, 524288, 32), (0, 1048576, 2), (2, 2097152, 1048576), (0, 4194304, 64), (12, 8388608, 6291456), (16, 16777216, 8388608), (32, 33554432, 16777216), (64, 67108864, 33554432), (0, 134217728, 2), (256, 268435456, 134217728), (0, 536870912, 64), (1536, 1073741824, 805306368), (2048, 2147483648, 1073741824), (4096, 4294967296, 2147483648), (0, 8589934592, 0), (24705, 17179869184, 12952535040), (65535, 32, 17179869184)] [8772, 8772, 8768, 8772, 8772, 8772, 8708, 8772, 8772, 8260, 8772, 8772, 8772, 580, 8772, 0, 8772] (.early 0 (.early 1 (.early 3 (.early 8 (.early 10 (.early 14 (.load 2 (.early 4 (.early 5 (.load 6 (.early 7 (.load 9 (.early 11 (.early 12 (.load 13 (.step 15 (.early 16 .done))))))))))))))))))) .none))))) (.seq .none .none))))))
theorem f6m (x0 : Value) (w : World) (R : Value → World → Prop) (E : Pan) : F32 x0 w R E = callX Tryd.prog [.tmp 2, .tmp 3] c32 h32 [x0] w R E := by kernel_rfl
theorem f6n {x0 : Value} {w : World} {R : Value → World → Prop} {E : Pan} (h : F32 x0 w R E) : Cv Tryd.prog 32 #[x0] w R E := by
 refine h8 (args := [x0]) (c := c32) (h := h32) (rs := [.tmp 2, .tmp 3]) Tryd.func32 (by kernel_rfl) (by kernel_rfl) (Nat.le_of_ble_eq_true (by kernel_rfl)) (by kernel_rfl) (by kernel_rfl) (by kernel_rfl) ?_
 rw [← f6m]
 exact h
def F33 (x0 : Value) (w : World) (R : Value → World → Prop) (E : Pan) : Prop :=
 opK Tryd.prog E (xV (Instr.box 25 x0)) w fun t8 w_2 =>
 opK Tryd.prog E (xV (Instr.loadAt 25 t8)) w_2 fun a3i w_4 =>
 opK Tryd.prog E (xCall (Value.func (.func 31) #[] #[]) [a3i]) w_4 fun a6l w_6 =>
 opK Tryd.prog E (xV (Instr.extract a6l 0)) w_6 fun b7K w_8 =>
 opK Tryd.prog E (xV (Instr.extract a6l 1)) w_8 fun b4J m2 =>
 opK Tryd.prog E (xBin .neq 34 (.tmp 11) (.const (Value.int .i64 0)) b4J (Value.int .i64 0)) m2 fun b0O m8 =>
 xcond b0O
 (R (Value.tuple #[(Value.int .u64 0), b4J]) m8)
 (opK Tryd.prog E (xCall (Value.func (.func 22) #[] #[]) [b7K]) m8 fun a5p m5 =>
 R (Value.tuple #[a5p, (Value.int .i64 0)]) m5)
noncomputable def c33 : Code := Tryd.f33.body.getD .skip
def h33 : Hint := (.seq .none (.seq .none (.seq (.seq .none (.cond (.seq .none .none) .none)) (.seq .none .none))))
theorem f6o (x0 : Value) (w : World) (R : Value → World → Prop) (E : Pan) : F33 x0 w R E = callX Tryd.prog [.tmp 2, .tmp 3] c33 h33 [x0] w R E := by kernel_rfl
theorem f6p {x0 : Value} {w : World} {R : Value → World → Prop} {E : Pan} (h : F33 x0 w R E) : Cv Tryd.prog 33 #[x0] w R E := by
 refine h8 (args := [x0]) (c := c33) (h := h33) (rs := [.tmp 2, .tmp 3]) Tryd.func33 (by kernel_rfl) (by kernel_rfl) (Nat.le_of_ble_eq_true (by kernel_rfl)) (by kernel_rfl) (by kernel_rfl) (by kernel_rfl) ?_
 rw [← f6o]
 exact h
def F34 (x0 : Value) (w : World) (R : Value → World → Prop) (E : Pan) : Prop :=
 opK Tryd.prog E (xV (Instr.box 25 x0)) w fun t8 w_2 =>
 opK Tryd.prog E (xV (Instr.loadAt 25 t8)) w_2 fun a3i w_4 =>
 opK Tryd.prog E (xCall (Value.func (.func 32) #[] #[]) [a3i]) w_4 fun a6l w_6 =>
 opK Tryd.prog E (xV (Instr.extract a6l 0)) w_6 fun b7K w_8 =>
 opK Tryd.prog E (xV (Instr.extract a6l 1)) w_8 fun b4J m2 =>
 opK Tryd.prog E (xBin .neq 3 (.tmp 11) (.const (Value.int .i64 0)) b4J (Value.int .i64 0)) m2 fun b0O m8 =>
 xcond b0O
 (R (Value.tuple #[(Value.int .u64 0), b4J]) m8)
 (opK Tryd.prog E (xCall (Value.func (.func 36) #[] #[]) [b7K]) m8 fun a5p m5 =>
 R (Value.tuple #[a5p, (Value.int .i64 0)]) m5)
noncomputable def c34 : Code := Tryd.f34.body.getD .skip
def h34 : Hint := (.seq .none (.seq .none (.seq (.seq .none (.cond (.seq .none .none) .none)) (.seq .none .none))))
theorem f6q (x0 : Value) (w : World) (R : Value → World → Prop) (E : Pan) : F34 x0 w R E = callX Tryd.prog [.tmp 2, .tmp 3] c34 h34 [x0] w R E := by kernel_rfl
theorem f6r {x0 : Value} {w : World} {R : Value → World → Prop} {E : Pan} (h : F34 x0 w R E) : Cv Tryd.prog 34 #[x0] w R E := by
 refine h8 (args := [x0]) (c := c34) (h := h34) (rs := [.tmp 2, .tmp 3]) Tryd.func34 (by kernel_rfl) (by kernel_rfl) (Nat.le_of_ble_eq_true (by kernel_rfl)) (by kernel_rfl) (by kernel_rfl) (by kernel_rfl) ?_
 rw [← f6q]
 exact h
def F35 (x0 x1 : Value) (w : World) (R : Value → World → Prop) (E : Pan) : Prop :=
 opK Tryd.prog E (xV (convert 40 9 x0)) w fun a7C w_2 =>
 opK Tryd.prog E (xV (convert 40 9 x1)) w_2 fun b2C w_4 =>
 opK Tryd.prog E (xBin .eql 9 (.tmp 6) (.tmp 8) a7C b2C) w_4 fun b7L w_6 =>
 R b7L w_6
noncomputable def c35 : Code := Tryd.f35.body.getD .skip
def h35 : Hint := (.seq .none (.seq .none .none))
theorem f6s (x0 x1 : Value) (w : World) (R : Value → World → Prop) (E : Pan) : F35 x0 x1 w R E = callX Tryd.prog [.tmp 4] c35 h35 [x0, x1] w R E := by kernel_rfl
theorem f6t {x0 x1 : Value} {w : World} {R : Value → World → Prop} {E : Pan} (h : F35 x0 x1 w R E) : Cv Tryd.prog 35 #[x0, x1] w R E := by
 refine h8 (args := [x0, x1]) (c := c35) (h := h35) (rs := [.tmp 4]) Tryd.func35 (by kernel_rfl) (by kernel_rfl) (Nat.le_of_ble_eq_true (by kernel_rfl)) (by kernel_rfl) (by kernel_rfl) (by kernel_rfl) ?_
 rw [← f6s]
 exact h
def c6R (x3 : Value) (w : World) (R : Value → World → Prop) (_E : Pan) : Prop :=
 ∀ _τ : Fr, (R x3 w)
def d5a (x0 x3 x4 : Value) (w : World) (next2 : List Value → World → Prop) (j1 : List Value → World → Prop) (_R : Value → World → Prop) (E : Pan) : Prop :=
 opK Tryd.prog E (xBuiltin .len #[40] 3 [false] [x0]) w fun a3i w_4 =>
 opK Tryd.prog E (xBin .lss 3 (.tmp 5) (.tmp 7) x4 a3i) w_4 fun a6l w_6 =>
 xcond a6l
 (opK Tryd.prog E (xV (Instr.indexAt 40 x0 x4)) w_6 fun b9s w_8 =>
 opK Tryd.prog E (xV (Instr.loadAt 5 b9s)) w_8 fun b9t m2 =>
 opK Tryd.prog E (xV (convert 5 41 b9t)) m2 fun a3k m8 =>
 opK Tryd.prog E (xBin .xor 41 (.tmp 11) (.tmp 16) x3 a3k) m8 fun c5R m5 =>
 opK Tryd.prog E (xBin .mul 41 (.tmp 17) (.const (Value.int .u64 1099511628211)) c5R (Value.int .u64 1099511628211)) m5 fun b5m o6 =>
 opK Tryd.prog E (xBin .add 3 (.tmp 9) (.const (Value.int .i64 1)) x4 (Value.int .i64 1)) o6 fun f6u p8 =>
 next2 [b5m, f6u] p8)
 (j1 [x3] w_6)
def F36 (x0 : Value) (w : World) (R : Value → World → Prop) (E : Pan) : Prop :=
 xcut (fun l_1 w_2 => c6R (nth l_1 0) w_2 R E) fun j1 =>
 xloop [3, 4] [(Value.int .u64 14695981039346656037), (Value.int .i64 0)] w fun τ_19 o4 next2 =>
 d5a x0 (τ_19 3) (τ_19 4) o4 next2 j1 R E
noncomputable def c36 : Code := Tryd.f36.body.getD .skip
def h36 : Hint := (.seq .none (.seq .none (.cut [3] (.seq .none (.block (.loop [3, 4] (.seq (.seq .none (.cond .none .none)) (.seq (.block .none) .none))))) (.seq .none .none))))
theorem f6v (x0 : Value) (w : World) (R : Value → World → Prop) (E : Pan) : F36 x0 w R E = callX Tryd.prog [.tmp 2] c36 h36 [x0] w R E := by kernel_rfl
theorem f6w {x0 : Value} {w : World} {R : Value → World → Prop} {E : Pan} (h : F36 x0 w R E) : Cv Tryd.prog 36 #[x0] w R E := by
 refine h8 (args := [x0]) (c := c36) (h := h36) (rs := [.tmp 2]) Tryd.func36 (by kernel_rfl) (by kernel_rfl) (Nat.le_of_ble_eq_true (by kernel_rfl)) (by kernel_rfl) (by kernel_rfl) (by kernel_rfl) ?_
 rw [← f6v]
 exact h
def d5b (x5 x39 x40 : Value) (w : World) (next2 : List Value → World → Prop) (R : Value → World → Prop) (E : Pan) : Prop :=
 opK Tryd.prog E (xBin .lss 3 (.tmp 40) (.const (Value.int .i64 4)) x40 (Value.int .i64 4)) w fun c5W u1 =>
 xcond c5W
 (opK Tryd.prog E (xV (Instr.index 114 x39 x40)) u1 fun a9F w9 =>
 opK Tryd.prog E (xV (Instr.loadAt 40 x5)) w9 fun f6x z6 =>
 opK Tryd.prog E (xV (convert 3 5 a9F)) z6 fun c5X w8 =>
 opK Tryd.prog E (xV (Instr.buildSlice 40 1 #[(0, c5X)])) w8 fun c5Y z7 =>
 opK Tryd.prog E (xBuiltin .append #[40, 40] 40 [false, false] [f6x, c5Y]) z7 fun f6y B3 =>
 opK Tryd.prog E (xU (Instr.storeAt 40 x5 f6y)) B3 fun _z_37 w3 =>
 opK Tryd.prog E (xBin .add 3 (.tmp 40) (.const (Value.int .i64 1)) x40 (Value.int .i64 1)) w3 fun f6z B8 =>
 next2 [f6z] B8)
 (R (Value.tuple #[]) u1)
def c6S (x3 x5 x10 : Value) (w : World) (R : Value → World → Prop) (E : Pan) : Prop :=
 ∀ _τ : Fr, (opK Tryd.prog E (xV (Instr.loadAt 40 x5)) w fun f6A m5 =>
 opK Tryd.prog E (xBuiltin .append #[40, 9] 40 [false, false] [f6A, x3]) m5 fun f6B o6 =>
 opK Tryd.prog E (xV (Instr.buildSlice 40 1 #[(0, (Value.int .u8 0))])) o6 fun f6C p8 =>
 opK Tryd.prog E (xBuiltin .append #[40, 40] 40 [false, false] [f6B, f6C]) p8 fun f6D o4 =>
 opK Tryd.prog E (xU (Instr.storeAt 40 x5 f6D)) o4 fun _z_21 r6 =>
 opK Tryd.prog E (xV (Instr.loadAt 114 x10)) r6 fun f6E q6 =>
 xloop [40] [(Value.int .i64 0)] q6 fun τ_41 C7 next2 =>
 d5b x5 f6E (τ_41 40) C7 next2 R E)
def d5c (x2 _x3 x5 _x10 x20 : Value) (w : World) (next3 : List Value → World → Prop) (j1 : List Value → World → Prop) (_R : Value → World → Prop) (E : Pan) : Prop :=
 opK Tryd.prog E (xBin .lss 3 (.tmp 20) (.const (Value.int .i64 8)) x20 (Value.int .i64 8)) w fun f6F D4 =>
 xcond f6F
 (dX D4 fun a8U =>
 qP Tryd.prog (xV (convert 2 41 x2)) fun f6G =>
 qP Tryd.prog (xBin .mul 3 (.const (Value.int .i64 8)) (.tmp 26) (Value.int .i64 8) x20) fun c4w =>
 qP Tryd.prog (xBin .sub 3 (.const (Value.int .i64 56)) (.tmp 27) (Value.int .i64 56) c4w) fun f6H =>
 qP Tryd.prog (xBin .shr 41 (.tmp 25) (.tmp 28) f6G f6H) fun c3e =>
 qP Tryd.prog (xV (convert 41 5 c3e)) fun f6I =>
 qL Tryd.prog a8U (blk x5) (xV (Instr.loadAt 40 x5)) fun f6J =>
 opK Tryd.prog E (xV (Instr.buildSlice 40 1 #[(0, f6I)])) a8U fun f6K b7H =>
 keepX [(blk x5)] a8U b7H (opK Tryd.prog E (xBuiltin .append #[40, 40] 40 [false, false] [f6J, f6K]) b7H fun f6L b7I =>
 keepX [] b7H b7I (opK Tryd.prog E (xU (Instr.storeAt 40 x5 f6L)) b7I fun _z_58 c3t =>
 keepX [] b7I c3t (opK Tryd.prog E (xBin .add 3 (.tmp 20) (.const (Value.int .i64 1)) x20 (Value.int .i64 1)) c3t fun f6M b0M =>
 next3 [f6M] b0M))))
 (j1 [] D4)
def F68 (x0 x1 x2 x3 x4 x5 : Value) (w : World) (R : Value → World → Prop) (E : Pan) : Prop :=
 opK Tryd.prog E (xV (Instr.box 114 x4)) w fun b0e w_2 =>
 opK Tryd.prog E (xV (Instr.loadAt 40 x5)) w_2 fun g2R w_4 =>
 opK Tryd.prog E (xV (convert 3 5 x1)) w_4 fun g2S w_6 =>
 opK Tryd.prog E (xV (Instr.buildSlice 40 2 #[(0, x0), (1, g2S)])) w_6 fun g2T w_8 =>
 opK Tryd.prog E (xBuiltin .append #[40, 40] 40 [false, false] [g2R, g2T]) w_8 fun g2U m2 =>
 opK Tryd.prog E (xU (Instr.storeAt 40 x5 g2U)) m2 fun _z_11 m8 =>
 xcut (fun _ B9 => c6S x3 x5 b0e B9 R E) fun j1 =>
 xloop [20] [(Value.int .i64 0)] m8 fun τ_62 d5V next3 =>
 d5c x2 x3 x5 b0e (τ_62 20) d5V next3 j1 R E
noncomputable def c68 : Code := Tryd.f68.body.getD .skip
def h68 : Hint := (.seq .none (.seq .none (.cut [] (.seq .none (.block (.loop [20] (.seq .none (.seq (.cond .none .none) (.seq (.block (.seq .none (.reg [(0, 8388608, 32), (0, 16777216, 4), (2, 33554432, 16777216), (0, 67108864, 2048), (8, 134217728, 67108864), (16, 268435456, 134217728), (36, 536870912, 301989888), (64, 1073741824, 536870912), (128, 2147483648, 1073741824), (257, 4294967296, 2155872256), (1023, 0, 4294967328)] [0, 1, 1, 1, 1, 1, 1, 1, 1, 0, 0] (.early 1 (.early 2 (.early 3 (.early 4 (.early 5 (.early 6 (.early 7 (.load 0 (.step 8 (.step 9 (.step 10 .done)))))))))))))) .none)))))) (.seq .none (.seq .none (.block (.loop [40] (.seq .none (.seq (.cond .none .none) (.seq (.block (.seq .none .none)) .none))))))))))
theorem f6N (x0 x1 x2 x3 x4 x5 : Value) (w : World) (R : Value → World → Prop) (E : Pan) : F68 x0 x1 x2 x3 x4 x5 w R E = callX Tryd.prog [] c68 h68 [x0, x1, x2, x3, x4, x5] w R E := by kernel_rfl
theorem f6O {x0 x1 x2 x3 x4 x5 : Value} {w : World} {R : Value → World → Prop} {E : Pan} (h : F68 x0 x1 x2 x3 x4 x5 w R E) : Cv Tryd.prog 68 #[x0, x1, x2, x3, x4, x5] w R E := by
 refine h8 (args := [x0, x1, x2, x3, x4, x5]) (c := c68) (h := h68) (rs := []) Tryd.func68 (by kernel_rfl) (by kernel_rfl) (Nat.le_of_ble_eq_true (by kernel_rfl)) (by kernel_rfl) (by kernel_rfl) (by kernel_rfl) ?_
 rw [← f6N]
 exact h
def d5d (x2 x19 x20 x21 : Value) (w : World) (next1 : List Value → World → Prop) (R : Value → World → Prop) (E : Pan) : Prop :=
 opK Tryd.prog E (xBin .lss 3 (.tmp 21) (.tmp 20) x21 x20) w fun b5B z7 =>
 xcond b5B
 (opK Tryd.prog E (xV (Instr.indexAt 28 x19 x21)) z7 fun c6T B3 =>
 opK Tryd.prog E (xV (Instr.loadAt 30 c6T)) B3 fun c3k w3 =>
 opK Tryd.prog E (xV (Instr.alloc 30 true (.tuple #[]))) w3 fun e0i B8 =>
 opK Tryd.prog E (xU (Instr.storeAt 30 e0i c3k)) B8 fun _z_41 C7 =>
 opK Tryd.prog E (xV (Instr.loadAt 103 x2)) C7 fun c3b B9 =>
 opK Tryd.prog E (xV (Instr.loadAt 30 e0i)) B9 fun c3c D4 =>
 opK Tryd.prog E (xCall c3b [c3c]) D4 fun _t27_47 E6 =>
 opK Tryd.prog E (xBin .add 3 (.tmp 21) (.const (Value.int .i64 1)) x21 (Value.int .i64 1)) E6 fun c3d D7 =>
 next1 [c3d] D7)
 (R (Value.tuple #[]) z7)
def F69 (x0 x1 x2 : Value) (w : World) (R : Value → World → Prop) (E : Pan) : Prop :=
 opK Tryd.prog E (xV (Instr.box 30 x0)) w fun a0S w_2 =>
 opK Tryd.prog E (xV (Instr.loadAt 115 x1)) w_2 fun c4a w_4 =>
 opK Tryd.prog E (xV (Instr.fieldAt 30 a0S 0)) w_4 fun c4b w_6 =>
 opK Tryd.prog E (xV (Instr.loadAt 3 c4b)) w_6 fun a8W w_8 =>
 opK Tryd.prog E (xV (Instr.fieldAt 30 a0S 1)) w_8 fun b2D m2 =>
 opK Tryd.prog E (xV (Instr.loadAt 2 b2D)) m2 fun c4u m8 =>
 opK Tryd.prog E (xV (Instr.fieldAt 30 a0S 2)) m8 fun a9z m5 =>
 opK Tryd.prog E (xV (Instr.loadAt 9 a9z)) m5 fun a6u o6 =>
 opK Tryd.prog E (xV (Instr.fieldAt 30 a0S 3)) o6 fun b5Q p8 =>
 opK Tryd.prog E (xV (Instr.loadAt 28 b5Q)) p8 fun b5R o4 =>
 opK Tryd.prog E (xBuiltin .len #[28] 3 [false] [b5R]) o4 fun b0W r6 =>
 opK Tryd.prog E (xV (Instr.build 114 #[(0, (Value.int .i64 0)), (1, b0W)])) r6 fun b5S q6 =>
 opK Tryd.prog E (xCall c4a [(Value.int .u8 69), a8W, c4u, a6u, b5S]) q6 fun _t17_25 u1 =>
 opK Tryd.prog E (xV (Instr.fieldAt 30 a0S 3)) u1 fun c4v w9 =>
 opK Tryd.prog E (xV (Instr.loadAt 28 c4v)) w9 fun b9y z6 =>
 opK Tryd.prog E (xBuiltin .len #[28] 3 [false] [b9y]) z6 fun b5T w8 =>
 xloop [21] [(Value.int .i64 0)] w8 fun τ_51 D8 next1 =>
 d5d x2 b9y b5T (τ_51 21) D8 next1 R E
noncomputable def c69 : Code := Tryd.f69.body.getD .skip
def h69 : Hint := (.seq .none (.seq .none (.seq .none (.block (.loop [21] (.seq .none (.seq (.cond .none .none) (.seq (.block (.seq .none .none)) .none))))))))
theorem f6P (x0 x1 x2 : Value) (w : World) (R : Value → World → Prop) (E : Pan) : F69 x0 x1 x2 w R E = callX Tryd.prog [] c69 h69 [x0, x1, x2] w R E := by kernel_rfl
theorem f6Q {x0 x1 x2 : Value} {w : World} {R : Value → World → Prop} {E : Pan} (h : F69 x0 x1 x2 w R E) : Cv Tryd.prog 69 #[x0, x1, x2] w R E := by
 refine h8 (args := [x0, x1, x2]) (c := c69) (h := h69) (rs := []) Tryd.func69 (by kernel_rfl) (by kernel_rfl) (Nat.le_of_ble_eq_true (by kernel_rfl)) (by kernel_rfl) (by kernel_rfl) (by kernel_rfl) ?_
 rw [← f6P]
 exact h
def d5e (x3 x34 x35 x36 : Value) (w : World) (next2 : List Value → World → Prop) (R : Value → World → Prop) (E : Pan) : Prop :=
 opK Tryd.prog E (xBin .lss 3 (.tmp 36) (.tmp 35) x36 x35) w fun f6R B3 =>
 xcond f6R
 (opK Tryd.prog E (xV (Instr.indexAt 31 x34 x36)) B3 fun f6S w3 =>
 opK Tryd.prog E (xV (Instr.loadAt 33 f6S)) w3 fun f6T B8 =>
 opK Tryd.prog E (xV (Instr.alloc 33 true (.tuple #[]))) B8 fun e0j C7 =>
 opK Tryd.prog E (xU (Instr.storeAt 33 e0j f6T)) C7 fun _z_43 B9 =>
 opK Tryd.prog E (xV (Instr.loadAt 108 x3)) B9 fun f6U D4 =>
 opK Tryd.prog E (xV (Instr.loadAt 33 e0j)) D4 fun f6V E6 =>
 opK Tryd.prog E (xCall f6U [f6V]) E6 fun _t42_49 D7 =>
 opK Tryd.prog E (xBin .add 3 (.tmp 36) (.const (Value.int .i64 1)) x36 (Value.int .i64 1)) D7 fun f6W D8 =>
 next2 [f6W] D8)
 (R (Value.tuple #[]) B3)
def c6U (x3 x4 : Value) (w : World) (R : Value → World → Prop) (E : Pan) : Prop :=
 ∀ _τ : Fr, (opK Tryd.prog E (xV (Instr.fieldAt 33 x4 3)) w fun f6X z6 =>
 opK Tryd.prog E (xV (Instr.loadAt 31 f6X)) z6 fun a4c w8 =>
 opK Tryd.prog E (xBuiltin .len #[31] 3 [false] [a4c]) w8 fun f6Y z7 =>
 xloop [36] [(Value.int .i64 0)] z7 fun τ_53 I9 next2 =>
 d5e x3 a4c f6Y (τ_53 36) I9 next2 R E)
def d5f (x2 _x3 _x4 x23 x24 x25 : Value) (w : World) (next3 : List Value → World → Prop) (j1 : List Value → World → Prop) (_R : Value → World → Prop) (E : Pan) : Prop :=
 opK Tryd.prog E (xBin .lss 3 (.tmp 25) (.tmp 24) x25 x24) w fun f6Z J7 =>
 xcond f6Z
 (opK Tryd.prog E (xV (Instr.indexAt 28 x23 x25)) J7 fun f7a Q4 =>
 opK Tryd.prog E (xV (Instr.loadAt 30 f7a)) Q4 fun f7b V4 =>
 opK Tryd.prog E (xV (Instr.alloc 30 true (.tuple #[]))) V4 fun e0k K8 =>
 opK Tryd.prog E (xU (Instr.storeAt 30 e0k f7b)) K8 fun _z_71 V9 =>
 opK Tryd.prog E (xV (Instr.loadAt 103 x2)) V9 fun f7c Y3 =>
 opK Tryd.prog E (xV (Instr.loadAt 30 e0k)) Y3 fun f7d S7 =>
 opK Tryd.prog E (xCall f7c [f7d]) S7 fun _t31_77 a0v =>
 opK Tryd.prog E (xBin .add 3 (.tmp 25) (.const (Value.int .i64 1)) x25 (Value.int .i64 1)) a0v fun f7e Z0 =>
 next3 [f7e] Z0)
 (j1 [] J7)
def F70 (x0 x1 x2 x3 : Value) (w : World) (R : Value → World → Prop) (E : Pan) : Prop :=
 opK Tryd.prog E (xV (Instr.box 33 x0)) w fun a4S w_2 =>
 opK Tryd.prog E (xV (Instr.loadAt 115 x1)) w_2 fun a5L w_4 =>
 opK Tryd.prog E (xV (Instr.fieldAt 33 a4S 0)) w_4 fun a3V w_6 =>
 opK Tryd.prog E (xV (Instr.loadAt 3 a3V)) w_6 fun b3N w_8 =>
 opK Tryd.prog E (xV (Instr.fieldAt 33 a4S 1)) w_8 fun b6P m2 =>
 opK Tryd.prog E (xV (Instr.loadAt 3 b6P)) m2 fun f7f m8 =>
 opK Tryd.prog E (xV (Instr.fieldAt 33 a4S 3)) m8 fun f7g m5 =>
 opK Tryd.prog E (xV (Instr.loadAt 31 f7g)) m5 fun f7h o6 =>
 opK Tryd.prog E (xBuiltin .len #[31] 3 [false] [f7h]) o6 fun b5s p8 =>
 opK Tryd.prog E (xV (Instr.fieldAt 33 a4S 2)) p8 fun b5j o4 =>
 opK Tryd.prog E (xV (Instr.loadAt 28 b5j)) o4 fun f7i r6 =>
 opK Tryd.prog E (xBuiltin .len #[28] 3 [false] [f7i]) r6 fun b5t q6 =>
 opK Tryd.prog E (xV (Instr.build 114 #[(0, b5s), (1, b5t)])) q6 fun f7j u1 =>
 opK Tryd.prog E (xCall a5L [(Value.int .u8 67), b3N, f7f, (Value.string ⟨#[]⟩), f7j]) u1 fun _t21_27 w9 =>
 xcut (fun _ K7 => c6U x3 a4S K7 R E) fun j1 =>
 opK Tryd.prog E (xV (Instr.fieldAt 33 a4S 2)) w9 fun b2X H9 =>
 opK Tryd.prog E (xV (Instr.loadAt 28 b2X)) H9 fun b0L J1 =>
 opK Tryd.prog E (xBuiltin .len #[28] 3 [false] [b0L]) J1 fun b9q N9 =>
 xloop [25] [(Value.int .i64 0)] N9 fun τ_81 a1s next3 =>
 d5f x2 x3 a4S b0L b9q (τ_81 25) a1s next3 j1 R E
noncomputable def c70 : Code := Tryd.f70.body.getD .skip
def h70 : Hint := (.seq .none (.seq .none (.cut [] (.seq .none (.block (.loop [25] (.seq .none (.seq (.cond .none .none) (.seq (.block (.seq .none .none)) .none)))))) (.seq .none (.block (.loop [36] (.seq .none (.seq (.cond .none .none) (.seq (.block (.seq .none .none)) .none)))))))))
theorem f7k (x0 x1 x2 x3 : Value) (w : World) (R : Value → World → Prop) (E : Pan) : F70 x0 x1 x2 x3 w R E = callX Tryd.prog [] c70 h70 [x0, x1, x2, x3] w R E := by kernel_rfl
theorem f7l {x0 x1 x2 x3 : Value} {w : World} {R : Value → World → Prop} {E : Pan} (h : F70 x0 x1 x2 x3 w R E) : Cv Tryd.prog 70 #[x0, x1, x2, x3] w R E := by
 refine h8 (args := [x0, x1, x2, x3]) (c := c70) (h := h70) (rs := []) Tryd.func70 (by kernel_rfl) (by kernel_rfl) (Nat.le_of_ble_eq_true (by kernel_rfl)) (by kernel_rfl) (by kernel_rfl) (by kernel_rfl) ?_
 rw [← f7k]
 exact h
def c6V (_x1 _x2 _x3 _x4 _x12 _x13 x14 : Value) (w : World) (next1 : List Value → World → Prop) (_R : Value → World → Prop) (E : Pan) : Prop :=
 ∀ _τ : Fr, (opK Tryd.prog E (xBin .add 3 (.tmp 14) (.const (Value.int .i64 1)) x14 (Value.int .i64 1)) w fun g2V w_6 =>
 next1 [g2V] w_6)
def c6W (_x1 _x2 _x3 x4 x7 _x12 _x13 _x14 : Value) (w : World) (j2 : List Value → World → Prop) (_R : Value → World → Prop) (E : Pan) : Prop :=
 ∀ _τ : Fr, (opK Tryd.prog E (xV (Instr.loadAt 116 x4)) w fun c5E K7 =>
 opK Tryd.prog E (xV (Instr.fieldAt 88 x7 4)) K7 fun b6q H9 =>
 opK Tryd.prog E (xV (Instr.loadAt 23 b6q)) H9 fun c5F J1 =>
 opK Tryd.prog E (xCall c5E [c5F]) J1 fun _t62_61 N9 =>
 opK Tryd.prog E (xV (Instr.loadAt 116 x4)) N9 fun c5G J7 =>
 opK Tryd.prog E (xV (Instr.fieldAt 88 x7 5)) J7 fun c5H Q4 =>
 opK Tryd.prog E (xV (Instr.loadAt 23 c5H)) Q4 fun f7m V4 =>
 opK Tryd.prog E (xCall c5G [f7m]) V4 fun _t66_69 K8 =>
 j2 [] K8)
def d5g (_x1 _x2 x3 _x4 _x7 _x12 _x13 _x14 x49 x50 x51 : Value) (w : World) (next5 : List Value → World → Prop) (j4 : List Value → World → Prop) (_R : Value → World → Prop) (E : Pan) : Prop :=
 opK Tryd.prog E (xBin .lss 3 (.tmp 51) (.tmp 50) x51 x50) w fun f7n Z0 =>
 xcond f7n
 (opK Tryd.prog E (xV (Instr.indexAt 28 x49 x51)) Z0 fun f7o a1s =>
 opK Tryd.prog E (xV (Instr.loadAt 30 f7o)) a1s fun f7p a2k =>
 opK Tryd.prog E (xV (Instr.alloc 30 true (.tuple #[]))) a2k fun d5h a2C =>
 opK Tryd.prog E (xU (Instr.storeAt 30 d5h f7p)) a2C fun _z_87 a2l =>
 opK Tryd.prog E (xV (Instr.loadAt 103 x3)) a2l fun f7q a3I =>
 opK Tryd.prog E (xV (Instr.loadAt 30 d5h)) a3I fun f7r a3J =>
 opK Tryd.prog E (xCall f7q [f7r]) a3J fun _t57_93 a3K =>
 opK Tryd.prog E (xBin .add 3 (.tmp 51) (.const (Value.int .i64 1)) x51 (Value.int .i64 1)) a3K fun f7s a2L =>
 next5 [f7s] a2L)
 (j4 [] Z0)
def c6X (x1 x2 x3 x4 x7 x12 x13 x14 : Value) (w : World) (j2 : List Value → World → Prop) (R : Value → World → Prop) (E : Pan) : Prop :=
 ∀ _τ : Fr, (xcut (fun _ V9 => c6W x1 x2 x3 x4 x7 x12 x13 x14 V9 j2 R E) fun j4 =>
 opK Tryd.prog E (xV (Instr.fieldAt 88 x7 2)) w fun f7t Y3 =>
 opK Tryd.prog E (xV (Instr.loadAt 28 f7t)) Y3 fun d5i S7 =>
 opK Tryd.prog E (xBuiltin .len #[28] 3 [false] [d5i]) S7 fun f7u a0v =>
 xloop [51] [(Value.int .i64 0)] a0v fun τ_97 a3L next5 =>
 d5g x1 x2 x3 x4 x7 x12 x13 x14 d5i f7u (τ_97 51) a3L next5 j4 R E)
def d5j (_x1 x2 _x3 _x4 _x7 _x12 _x13 _x14 x38 x39 x40 : Value) (w : World) (next6 : List Value → World → Prop) (j3 : List Value → World → Prop) (_R : Value → World → Prop) (E : Pan) : Prop :=
 opK Tryd.prog E (xBin .lss 3 (.tmp 40) (.tmp 39) x40 x39) w fun e4r a2M =>
 xcond e4r
 (opK Tryd.prog E (xV (Instr.indexAt 31 x38 x40)) a2M fun e4s a3x =>
 opK Tryd.prog E (xV (Instr.loadAt 33 e4s)) a3x fun e4t a3y =>
 opK Tryd.prog E (xV (Instr.alloc 33 true (.tuple #[]))) a3y fun d5k a2N =>
 opK Tryd.prog E (xU (Instr.storeAt 33 d5k e4t)) a2N fun _z_115 a3z =>
 opK Tryd.prog E (xV (Instr.loadAt 108 x2)) a3z fun e4u a4n =>
 opK Tryd.prog E (xV (Instr.loadAt 33 d5k)) a4n fun e4v a4o =>
 opK Tryd.prog E (xCall e4u [e4v]) a4o fun _t46_121 a5Z =>
 opK Tryd.prog E (xBin .add 3 (.tmp 40) (.const (Value.int .i64 1)) x40 (Value.int .i64 1)) a5Z fun e4w a7I =>
 next6 [e4w] a7I)
 (j3 [] a2M)
def d5l (x1 x2 x3 x4 x12 x13 x14 : Value) (w : World) (next1 : List Value → World → Prop) (R : Value → World → Prop) (E : Pan) : Prop :=
 opK Tryd.prog E (xBin .lss 3 (.tmp 14) (.tmp 13) x14 x13) w fun a6e w_4 =>
 xcond a6e
 (xcut (fun _ w_8 => c6V x1 x2 x3 x4 x12 x13 x14 w_8 next1 R E) fun j2 =>
 opK Tryd.prog E (xV (Instr.indexAt 23 x12 x14)) w_4 fun g2W m2 =>
 opK Tryd.prog E (xV (Instr.loadAt 88 g2W)) m2 fun b6z m8 =>
 opK Tryd.prog E (xV (Instr.alloc 88 true (.tuple #[]))) m8 fun a9u m5 =>
 opK Tryd.prog E (xU (Instr.storeAt 88 a9u b6z)) m5 fun _z_15 o6 =>
 opK Tryd.prog E (xV (Instr.loadAt 115 x1)) o6 fun c3y p8 =>
 opK Tryd.prog E (xV (Instr.fieldAt 88 a9u 0)) p8 fun c3z o4 =>
 opK Tryd.prog E (xV (Instr.loadAt 3 c3z)) o4 fun b5k r6 =>
 opK Tryd.prog E (xV (Instr.fieldAt 88 a9u 1)) r6 fun f7v q6 =>
 opK Tryd.prog E (xV (Instr.loadAt 9 f7v)) q6 fun c3P u1 =>
 opK Tryd.prog E (xV (Instr.fieldAt 88 a9u 3)) u1 fun c2Z w9 =>
 opK Tryd.prog E (xV (Instr.loadAt 31 c2Z)) w9 fun c6F z6 =>
 opK Tryd.prog E (xBuiltin .len #[31] 3 [false] [c6F]) z6 fun c6G w8 =>
 opK Tryd.prog E (xV (Instr.fieldAt 88 a9u 2)) w8 fun b6y z7 =>
 opK Tryd.prog E (xV (Instr.loadAt 28 b6y)) z7 fun c6H B3 =>
 opK Tryd.prog E (xBuiltin .len #[28] 3 [false] [c6H]) B3 fun c6I w3 =>
 opK Tryd.prog E (xV (Instr.fieldAt 88 a9u 4)) w3 fun c3U B8 =>
 opK Tryd.prog E (xV (Instr.loadAt 23 c3U)) B8 fun b5M C7 =>
 opK Tryd.prog E (xBuiltin .len #[23] 3 [false] [b5M]) C7 fun b5N B9 =>
 opK Tryd.prog E (xV (Instr.fieldAt 88 a9u 5)) B9 fun b0Q D4 =>
 opK Tryd.prog E (xV (Instr.loadAt 23 b0Q)) D4 fun b5v E6 =>
 opK Tryd.prog E (xBuiltin .len #[23] 3 [false] [b5v]) E6 fun b5w D7 =>
 opK Tryd.prog E (xV (Instr.build 114 #[(0, c6G), (1, c6I), (2, b5N), (3, b5w)])) D7 fun c4f D8 =>
 opK Tryd.prog E (xCall c3y [(Value.int .u8 83), b5k, (Value.int .i64 0), c3P, c4f]) D8 fun _t36_53 I9 =>
 xcut (fun _ a0E => c6X x1 x2 x3 x4 a9u x12 x13 x14 a0E j2 R E) fun j3 =>
 opK Tryd.prog E (xV (Instr.fieldAt 88 a9u 3)) I9 fun e4x a1u =>
 opK Tryd.prog E (xV (Instr.loadAt 31 e4x)) a1u fun c8E a2r =>
 opK Tryd.prog E (xBuiltin .len #[31] 3 [false] [c8E]) a2r fun e4y a2s =>
 xloop [40] [(Value.int .i64 0)] a2s fun τ_125 a6a next6 =>
 d5j x1 x2 x3 x4 a9u x12 x13 x14 c8E e4y (τ_125 40) a6a next6 j3 R E)
 (R (Value.tuple #[]) w_4)
def F71 (x0 x1 x2 x3 x4 : Value) (w : World) (R : Value → World → Prop) (E : Pan) : Prop :=
 opK Tryd.prog E (xBuiltin .len #[23] 3 [false] [x0]) w fun g2X w_2 =>
 xloop [14] [(Value.int .i64 0)] w_2 fun τ_127 a7J next1 =>
 d5l x1 x2 x3 x4 x0 g2X (τ_127 14) a7J next1 R E
noncomputable def c71 : Code := Tryd.f71.body.getD .skip
def h71 : Hint := (.seq .none (.block (.loop [14] (.seq .none (.seq (.cond .none .none) (.cut [] (.block (.seq .none (.seq .none (.cut [] (.seq .none (.block (.loop [40] (.seq .none (.seq (.cond .none .none) (.seq (.block (.seq .none .none)) .none)))))) (.cut [] (.seq .none (.block (.loop [51] (.seq .none (.seq (.cond .none .none) (.seq (.block (.seq .none .none)) .none)))))) (.seq .none .none)))))) .none))))))
theorem f7w (x0 x1 x2 x3 x4 : Value) (w : World) (R : Value → World → Prop) (E : Pan) : F71 x0 x1 x2 x3 x4 w R E = callX Tryd.prog [] c71 h71 [x0, x1, x2, x3, x4] w R E := by kernel_rfl
theorem f7x {x0 x1 x2 x3 x4 : Value} {w : World} {R : Value → World → Prop} {E : Pan} (h : F71 x0 x1 x2 x3 x4 w R E) : Cv Tryd.prog 71 #[x0, x1, x2, x3, x4] w R E := by
 refine h8 (args := [x0, x1, x2, x3, x4]) (c := c71) (h := h71) (rs := []) Tryd.func71 (by kernel_rfl) (by kernel_rfl) (Nat.le_of_ble_eq_true (by kernel_rfl)) (by kernel_rfl) (by kernel_rfl) (by kernel_rfl) ?_
 rw [← f7w]
 exact h
def c6Y (x0 : Value) (w : World) (R : Value → World → Prop) (_E : Pan) : Prop :=
 ∀ _τ : Fr, (R x0 w)
def d5m (x0 x11 x15 : Value) (w : World) (next4 : List Value → World → Prop) (j3 : List Value → World → Prop) (_R : Value → World → Prop) (E : Pan) : Prop :=
 opK Tryd.prog E (xBin .lss 3 (.tmp 49) (.const (Value.int .i64 4)) x15 (Value.int .i64 4)) w fun f7y o6 =>
 xcond f7y
 (opK Tryd.prog E (xV (Instr.indexAt 114 x11 x15)) o6 fun f7z p8 =>
 opK Tryd.prog E (xV (Instr.loadAt 3 f7z)) p8 fun f7A o4 =>
 opK Tryd.prog E (xBin .rem 3 (.tmp 56) (.const (Value.int .i64 256)) f7A (Value.int .i64 256)) o4 fun f7B r6 =>
 opK Tryd.prog E (xV (convert 3 5 f7B)) r6 fun f7C q6 =>
 opK Tryd.prog E (xV (Instr.buildSlice 40 1 #[(0, f7C)])) q6 fun f7D u1 =>
 opK Tryd.prog E (xBuiltin .append #[40, 40] 40 [false, false] [x0, f7D]) u1 fun f7E w9 =>
 opK Tryd.prog E (xBin .add 3 (.tmp 51) (.const (Value.int .i64 1)) x15 (Value.int .i64 1)) w9 fun f7F z6 =>
 next4 [f7E, f7F] z6)
 (j3 [x0] o6)
def c6Z (x0 x11 : Value) (w : World) (R : Value → World → Prop) (E : Pan) : Prop :=
 ∀ _τ : Fr, (opK Tryd.prog E (xV (Instr.buildSlice 40 1 #[(0, (Value.int .u8 0))])) w fun g2Y m2 =>
 opK Tryd.prog E (xBuiltin .append #[40, 40] 40 [false, false] [x0, g2Y]) m2 fun f7G m8 =>
 xcut (fun a4J m5 => c6Y (nth a4J 0) m5 R E) fun j3 =>
 xloop [0, 15] [f7G, (Value.int .i64 0)] m8 fun τ_31 w8 next4 =>
 d5m (τ_31 0) x11 (τ_31 15) w8 next4 j3 R E)
def d5n (x0 x4 _x11 x14 : Value) (w : World) (next5 : List Value → World → Prop) (j2 : List Value → World → Prop) (_R : Value → World → Prop) (E : Pan) : Prop :=
 opK Tryd.prog E (xBuiltin .len #[9] 3 [false] [x4]) w fun c6L B3 =>
 opK Tryd.prog E (xBin .lss 3 (.tmp 34) (.tmp 36) x14 c6L) B3 fun c6M w3 =>
 xcond c6M
 (opK Tryd.prog E (xV (Instr.index 9 x4 x14)) w3 fun c7a B8 =>
 opK Tryd.prog E (xV (Instr.buildSlice 40 1 #[(0, c7a)])) B8 fun c7b C7 =>
 opK Tryd.prog E (xBuiltin .append #[40, 40] 40 [false, false] [x0, c7b]) C7 fun f7H B9 =>
 opK Tryd.prog E (xBin .add 3 (.tmp 38) (.const (Value.int .i64 1)) x14 (Value.int .i64 1)) B9 fun f7I D4 =>
 next5 [f7H, f7I] D4)
 (j2 [x0] w3)
def c7c (x0 x4 x11 : Value) (w : World) (R : Value → World → Prop) (E : Pan) : Prop :=
 ∀ _τ : Fr, (xcut (fun f1E z7 => c6Z (nth f1E 0) x11 z7 R E) fun j2 =>
 xloop [0, 14] [x0, (Value.int .i64 0)] w fun τ_47 E6 next5 =>
 d5n (τ_47 0) x4 x11 (τ_47 14) E6 next5 j2 R E)
def d5o (x0 x3 _x4 _x11 x13 : Value) (w : World) (next6 : List Value → World → Prop) (j1 : List Value → World → Prop) (_R : Value → World → Prop) (E : Pan) : Prop :=
 opK Tryd.prog E (xBin .geq 3 (.tmp 22) (.const (Value.int .i64 0)) x13 (Value.int .i64 0)) w fun c6P D8 =>
 xcond c6P
 (opK Tryd.prog E (xBin .mul 3 (.const (Value.int .i64 8)) (.tmp 28) (Value.int .i64 8) x13) D8 fun c4m I9 =>
 opK Tryd.prog E (xBin .shr 41 (.tmp 27) (.tmp 29) x3 c4m) I9 fun c4n K7 =>
 opK Tryd.prog E (xV (convert 41 5 c4n)) K7 fun c4o H9 =>
 opK Tryd.prog E (xV (Instr.buildSlice 40 1 #[(0, c4o)])) H9 fun c4p J1 =>
 opK Tryd.prog E (xBuiltin .append #[40, 40] 40 [false, false] [x0, c4p]) J1 fun c4q N9 =>
 opK Tryd.prog E (xBin .sub 3 (.tmp 24) (.const (Value.int .i64 1)) x13 (Value.int .i64 1)) N9 fun b9r J7 =>
 next6 [c4q, b9r] J7)
 (j1 [x0] D8)
def F72 (x0 x1 x2 x3 x4 x5 : Value) (w : World) (R : Value → World → Prop) (E : Pan) : Prop :=
 opK Tryd.prog E (xV (Instr.box 114 x5)) w fun e0l w_2 =>
 opK Tryd.prog E (xV (convert 3 5 x2)) w_2 fun g2Z w_4 =>
 opK Tryd.prog E (xV (Instr.buildSlice 40 2 #[(0, x1), (1, g2Z)])) w_4 fun g3a w_6 =>
 opK Tryd.prog E (xBuiltin .append #[40, 40] 40 [false, false] [x0, g3a]) w_6 fun g3b w_8 =>
 xcut (fun f7J D7 => c7c (nth f7J 0) x4 e0l D7 R E) fun j1 =>
 xloop [0, 13] [g3b, (Value.int .i64 7)] w_8 fun τ_65 Q4 next6 =>
 d5o (τ_65 0) x3 x4 e0l (τ_65 13) Q4 next6 j1 R E
noncomputable def c72 : Code := Tryd.f72.body.getD .skip
def h72 : Hint := (.seq .none (.seq .none (.cut [0] (.seq .none (.block (.loop [0, 13] (.seq (.seq .none (.cond .none .none)) (.seq (.block .none) .none))))) (.cut [0] (.seq .none (.block (.loop [0, 14] (.seq (.seq .none (.cond .none .none)) (.seq (.block .none) .none))))) (.seq .none (.cut [0] (.seq .none (.block (.loop [0, 15] (.seq (.seq .none (.cond .none .none)) (.seq (.block .none) .none))))) (.seq .none .none)))))))
theorem f7K (x0 x1 x2 x3 x4 x5 : Value) (w : World) (R : Value → World → Prop) (E : Pan) : F72 x0 x1 x2 x3 x4 x5 w R E = callX Tryd.prog [.tmp 12] c72 h72 [x0, x1, x2, x3, x4, x5] w R E := by kernel_rfl
theorem f7L {x0 x1 x2 x3 x4 x5 : Value} {w : World} {R : Value → World → Prop} {E : Pan} (h : F72 x0 x1 x2 x3 x4 x5 w R E) : Cv Tryd.prog 72 #[x0, x1, x2, x3, x4, x5] w R E := by
 refine h8 (args := [x0, x1, x2, x3, x4, x5]) (c := c72) (h := h72) (rs := [.tmp 12]) Tryd.func72 (by kernel_rfl) (by kernel_rfl) (Nat.le_of_ble_eq_true (by kernel_rfl)) (by kernel_rfl) (by kernel_rfl) (by kernel_rfl) ?_
 rw [← f7K]
 exact h
def c7d (x0 : Value) (w : World) (R : Value → World → Prop) (_E : Pan) : Prop :=
 ∀ _τ : Fr, (R x0 w)
def c7e (x0 _x1 x5 : Value) (w : World) (next2 : List Value → World → Prop) (_R : Value → World → Prop) (E : Pan) : Prop :=
 ∀ _τ : Fr, (opK Tryd.prog E (xBin .add 3 (.tmp 13) (.const (Value.int .i64 1)) x5 (Value.int .i64 1)) w fun b9s w_8 =>
 next2 [x0, b9s] w_8)
def c7f (x0 _x1 _x5 x6 : Value) (w : World) (j3 : List Value → World → Prop) (_R : Value → World → Prop) (E : Pan) : Prop :=
 ∀ _τ : Fr, (opK Tryd.prog E (xV (Instr.fieldAt 88 x6 4)) w fun f7M K7 =>
 opK Tryd.prog E (xV (Instr.loadAt 23 f7M)) K7 fun f7N H9 =>
 opK Tryd.prog E (xCall (Value.func (.func 73) #[] #[]) [x0, f7N]) H9 fun f7O J1 =>
 opK Tryd.prog E (xV (Instr.fieldAt 88 x6 5)) J1 fun f7P N9 =>
 opK Tryd.prog E (xV (Instr.loadAt 23 f7P)) N9 fun f7Q J7 =>
 opK Tryd.prog E (xCall (Value.func (.func 73) #[] #[]) [f7O, f7Q]) J7 fun f7R Q4 =>
 j3 [f7R] Q4)
def d5p (x0 _x1 _x5 x6 x8 : Value) (w : World) (next6 : List Value → World → Prop) (j5 : List Value → World → Prop) (_R : Value → World → Prop) (E : Pan) : Prop :=
 opK Tryd.prog E (xV (Instr.fieldAt 88 x6 2)) w fun f7S K8 =>
 opK Tryd.prog E (xV (Instr.loadAt 28 f7S)) K8 fun f7T V9 =>
 opK Tryd.prog E (xBuiltin .len #[28] 3 [false] [f7T]) V9 fun f7U Y3 =>
 opK Tryd.prog E (xBin .lss 3 (.tmp 52) (.tmp 55) x8 f7U) Y3 fun f7V S7 =>
 xcond f7V
 (opK Tryd.prog E (xV (Instr.fieldAt 88 x6 2)) S7 fun f7W a0v =>
 opK Tryd.prog E (xV (Instr.loadAt 28 f7W)) a0v fun f7X Z0 =>
 opK Tryd.prog E (xV (Instr.indexAt 28 f7X x8)) Z0 fun f7Y a1s =>
 opK Tryd.prog E (xV (Instr.loadAt 30 f7Y)) a1s fun f7Z a2k =>
 opK Tryd.prog E (xCall (Value.func (.func 100) #[] #[]) [x0, f7Z]) a2k fun f8a a2C =>
 opK Tryd.prog E (xBin .add 3 (.tmp 57) (.const (Value.int .i64 1)) x8 (Value.int .i64 1)) a2C fun f8b a2l =>
 next6 [f8a, f8b] a2l)
 (j5 [x0] S7)
def c7g (x0 x1 x5 x6 : Value) (w : World) (j3 : List Value → World → Prop) (R : Value → World → Prop) (E : Pan) : Prop :=
 ∀ _τ : Fr, (xcut (fun d2e V4 => c7f (nth d2e 0) x1 x5 x6 V4 j3 R E) fun j5 =>
 xloop [0, 8] [x0, (Value.int .i64 0)] w fun τ_89 a3I next6 =>
 d5p (τ_89 0) x1 x5 x6 (τ_89 8) a3I next6 j5 R E)
def d5q (x0 _x1 _x5 x6 x7 : Value) (w : World) (next7 : List Value → World → Prop) (j4 : List Value → World → Prop) (_R : Value → World → Prop) (E : Pan) : Prop :=
 opK Tryd.prog E (xV (Instr.fieldAt 88 x6 3)) w fun f8c a3K =>
 opK Tryd.prog E (xV (Instr.loadAt 31 f8c)) a3K fun f8d a2L =>
 opK Tryd.prog E (xBuiltin .len #[31] 3 [false] [f8d]) a2L fun f8e a3L =>
 opK Tryd.prog E (xBin .lss 3 (.tmp 38) (.tmp 41) x7 f8e) a3L fun f8f a0E =>
 xcond f8f
 (opK Tryd.prog E (xV (Instr.fieldAt 88 x6 3)) a0E fun e4z a1u =>
 opK Tryd.prog E (xV (Instr.loadAt 31 e4z)) a1u fun e4A a2r =>
 opK Tryd.prog E (xV (Instr.indexAt 31 e4A x7)) a2r fun e4B a2s =>
 opK Tryd.prog E (xV (Instr.loadAt 33 e4B)) a2s fun e4C a2M =>
 opK Tryd.prog E (xCall (Value.func (.func 99) #[] #[]) [x0, e4C]) a2M fun e4D a3x =>
 opK Tryd.prog E (xBin .add 3 (.tmp 43) (.const (Value.int .i64 1)) x7 (Value.int .i64 1)) a3x fun e4E a3y =>
 next7 [e4D, e4E] a3y)
 (j4 [x0] a0E)
def d5r (x0 x1 x5 : Value) (w : World) (next2 : List Value → World → Prop) (j1 : List Value → World → Prop) (R : Value → World → Prop) (E : Pan) : Prop :=
 opK Tryd.prog E (xBuiltin .len #[23] 3 [false] [x1]) w fun c9c w_4 =>
 opK Tryd.prog E (xBin .lss 3 (.tmp 9) (.tmp 11) x5 c9c) w_4 fun b3I w_6 =>
 xcond b3I
 (xcut (fun l_9 m2 => c7e (nth l_9 0) x1 x5 m2 next2 R E) fun j3 =>
 opK Tryd.prog E (xV (Instr.indexAt 23 x1 x5)) w_6 fun b6z m8 =>
 opK Tryd.prog E (xV (Instr.loadAt 88 b6z)) m8 fun a7G m5 =>
 opK Tryd.prog E (xV (Instr.alloc 88 true (.tuple #[]))) m5 fun b0t o6 =>
 opK Tryd.prog E (xU (Instr.storeAt 88 b0t a7G)) o6 fun _z_17 p8 =>
 opK Tryd.prog E (xV (Instr.fieldAt 88 b0t 0)) p8 fun c3g o4 =>
 opK Tryd.prog E (xV (Instr.loadAt 3 c3g)) o4 fun c3h r6 =>
 opK Tryd.prog E (xV (Instr.fieldAt 88 b0t 1)) r6 fun b5n q6 =>
 opK Tryd.prog E (xV (Instr.loadAt 9 b5n)) q6 fun c3A u1 =>
 opK Tryd.prog E (xV (Instr.fieldAt 88 b0t 3)) u1 fun f8g w9 =>
 opK Tryd.prog E (xV (Instr.loadAt 31 f8g)) w9 fun c3B z6 =>
 opK Tryd.prog E (xBuiltin .len #[31] 3 [false] [c3B]) z6 fun f8h w8 =>
 opK Tryd.prog E (xV (Instr.fieldAt 88 b0t 2)) w8 fun f8i z7 =>
 opK Tryd.prog E (xV (Instr.loadAt 28 f8i)) z7 fun f8j B3 =>
 opK Tryd.prog E (xBuiltin .len #[28] 3 [false] [f8j]) B3 fun f8k w3 =>
 opK Tryd.prog E (xV (Instr.fieldAt 88 b0t 4)) w3 fun f8l B8 =>
 opK Tryd.prog E (xV (Instr.loadAt 23 f8l)) B8 fun f8m C7 =>
 opK Tryd.prog E (xBuiltin .len #[23] 3 [false] [f8m]) C7 fun f8n B9 =>
 opK Tryd.prog E (xV (Instr.fieldAt 88 b0t 5)) B9 fun f8o D4 =>
 opK Tryd.prog E (xV (Instr.loadAt 23 f8o)) D4 fun f8p E6 =>
 opK Tryd.prog E (xBuiltin .len #[23] 3 [false] [f8p]) E6 fun f8q D7 =>
 opK Tryd.prog E (xV (Instr.build 114 #[(0, f8h), (1, f8k), (2, f8n), (3, f8q)])) D7 fun c3E D8 =>
 opK Tryd.prog E (xCall (Value.func (.func 72) #[] #[]) [x0, (Value.int .u8 83), c3h, (Value.int .u64 0), c3A, c3E]) D8 fun c3F I9 =>
 xcut (fun b7M a3J => c7g (nth b7M 0) x1 x5 b0t a3J j3 R E) fun j4 =>
 xloop [0, 7] [c3F, (Value.int .i64 0)] I9 fun τ_113 a2N next7 =>
 d5q (τ_113 0) x1 x5 b0t (τ_113 7) a2N next7 j4 R E)
 (j1 [x0] w_6)
def F73 (x0 x1 : Value) (w : World) (R : Value → World → Prop) (E : Pan) : Prop :=
 xcut (fun l_1 w_2 => c7d (nth l_1 0) w_2 R E) fun j1 =>
 xloop [0, 5] [x0, (Value.int .i64 0)] w fun τ_115 a3z next2 =>
 d5r (τ_115 0) x1 (τ_115 5) a3z next2 j1 R E
noncomputable def c73 : Code := Tryd.f73.body.getD .skip
def h73 : Hint := (.seq .none (.cut [0] (.seq .none (.block (.loop [0, 5] (.seq (.seq .none (.cond .none .none)) (.cut [0] (.block (.seq .none (.seq .none (.cut [0] (.seq .none (.block (.loop [0, 7] (.seq (.seq .none (.cond .none .none)) (.seq (.block .none) .none))))) (.cut [0] (.seq .none (.block (.loop [0, 8] (.seq (.seq .none (.cond .none .none)) (.seq (.block .none) .none))))) (.seq .none .none)))))) .none))))) (.seq .none .none)))
theorem f8r (x0 x1 : Value) (w : World) (R : Value → World → Prop) (E : Pan) : F73 x0 x1 w R E = callX Tryd.prog [.tmp 4] c73 h73 [x0, x1] w R E := by kernel_rfl
theorem f8s {x0 x1 : Value} {w : World} {R : Value → World → Prop} {E : Pan} (h : F73 x0 x1 w R E) : Cv Tryd.prog 73 #[x0, x1] w R E := by
 refine h8 (args := [x0, x1]) (c := c73) (h := h73) (rs := [.tmp 4]) Tryd.func73 (by kernel_rfl) (by kernel_rfl) (Nat.le_of_ble_eq_true (by kernel_rfl)) (by kernel_rfl) (by kernel_rfl) (by kernel_rfl) ?_
 rw [← f8r]
 exact h
def c7h (x0 : Value) (w : World) (R : Value → World → Prop) (_E : Pan) : Prop :=
 ∀ _τ : Fr, (R x0 w)
def d5s (x0 x3 x6 : Value) (w : World) (next3 : List Value → World → Prop) (j2 : List Value → World → Prop) (_R : Value → World → Prop) (E : Pan) : Prop :=
 opK Tryd.prog E (xV (Instr.fieldAt 33 x3 3)) w fun f8t w8 =>
 opK Tryd.prog E (xV (Instr.loadAt 31 f8t)) w8 fun a8n z7 =>
 opK Tryd.prog E (xBuiltin .len #[31] 3 [false] [a8n]) z7 fun f8u B3 =>
 opK Tryd.prog E (xBin .lss 3 (.tmp 35) (.tmp 38) x6 f8u) B3 fun f8v w3 =>
 xcond f8v
 (opK Tryd.prog E (xV (Instr.fieldAt 33 x3 3)) w3 fun c7a B8 =>
 opK Tryd.prog E (xV (Instr.loadAt 31 c7a)) B8 fun c7b C7 =>
 opK Tryd.prog E (xV (Instr.indexAt 31 c7b x6)) C7 fun c6e B9 =>
 opK Tryd.prog E (xV (Instr.loadAt 33 c6e)) B9 fun f8w D4 =>
 opK Tryd.prog E (xCall (Value.func (.func 99) #[] #[]) [x0, f8w]) D4 fun f8x E6 =>
 opK Tryd.prog E (xBin .add 3 (.tmp 40) (.const (Value.int .i64 1)) x6 (Value.int .i64 1)) E6 fun f8y D7 =>
 next3 [f8x, f8y] D7)
 (j2 [x0] w3)
def c7i (x0 x3 : Value) (w : World) (R : Value → World → Prop) (E : Pan) : Prop :=
 ∀ _τ : Fr, (xcut (fun c9O z6 => c7h (nth c9O 0) z6 R E) fun j2 =>
 xloop [0, 6] [x0, (Value.int .i64 0)] w fun τ_51 D8 next3 =>
 d5s (τ_51 0) x3 (τ_51 6) D8 next3 j2 R E)
def d5t (x0 x3 x5 : Value) (w : World) (next4 : List Value → World → Prop) (j1 : List Value → World → Prop) (_R : Value → World → Prop) (E : Pan) : Prop :=
 opK Tryd.prog E (xV (Instr.fieldAt 33 x3 2)) w fun f8z K7 =>
 opK Tryd.prog E (xV (Instr.loadAt 28 f8z)) K7 fun f8A H9 =>
 opK Tryd.prog E (xBuiltin .len #[28] 3 [false] [f8A]) H9 fun f8B J1 =>
 opK Tryd.prog E (xBin .lss 3 (.tmp 21) (.tmp 24) x5 f8B) J1 fun f8C N9 =>
 xcond f8C
 (opK Tryd.prog E (xV (Instr.fieldAt 33 x3 2)) N9 fun f8D J7 =>
 opK Tryd.prog E (xV (Instr.loadAt 28 f8D)) J7 fun c3o Q4 =>
 opK Tryd.prog E (xV (Instr.indexAt 28 c3o x5)) Q4 fun f8E V4 =>
 opK Tryd.prog E (xV (Instr.loadAt 30 f8E)) V4 fun c3p K8 =>
 opK Tryd.prog E (xCall (Value.func (.func 100) #[] #[]) [x0, c3p]) K8 fun f8F V9 =>
 opK Tryd.prog E (xBin .add 3 (.tmp 26) (.const (Value.int .i64 1)) x5 (Value.int .i64 1)) V9 fun f8G Y3 =>
 next4 [f8F, f8G] Y3)
 (j1 [x0] N9)
def F99 (x0 x1 : Value) (w : World) (R : Value → World → Prop) (E : Pan) : Prop :=
 opK Tryd.prog E (xV (Instr.box 33 x1)) w fun a0S w_2 =>
 opK Tryd.prog E (xV (Instr.fieldAt 33 a0S 0)) w_2 fun b2C w_4 =>
 opK Tryd.prog E (xV (Instr.loadAt 3 b2C)) w_4 fun b7L w_6 =>
 opK Tryd.prog E (xV (Instr.fieldAt 33 a0S 1)) w_6 fun c0s w_8 =>
 opK Tryd.prog E (xV (Instr.loadAt 3 c0s)) w_8 fun b9m m2 =>
 opK Tryd.prog E (xV (convert 3 41 b9m)) m2 fun b0O m8 =>
 opK Tryd.prog E (xV (Instr.fieldAt 33 a0S 3)) m8 fun c3C m5 =>
 opK Tryd.prog E (xV (Instr.loadAt 31 c3C)) m5 fun b5r o6 =>
 opK Tryd.prog E (xBuiltin .len #[31] 3 [false] [b5r]) o6 fun c6E p8 =>
 opK Tryd.prog E (xV (Instr.fieldAt 33 a0S 2)) p8 fun b1K o4 =>
 opK Tryd.prog E (xV (Instr.loadAt 28 b1K)) o4 fun f8H r6 =>
 opK Tryd.prog E (xBuiltin .len #[28] 3 [false] [f8H]) r6 fun f8I q6 =>
 opK Tryd.prog E (xV (Instr.build 114 #[(0, c6E), (1, f8I), (2, (Value.int .i64 0)), (3, (Value.int .i64 0))])) q6 fun c6O u1 =>
 opK Tryd.prog E (xCall (Value.func (.func 72) #[] #[]) [x0, (Value.int .u8 67), b7L, b0O, (Value.string ⟨#[]⟩), c6O]) u1 fun f8J w9 =>
 xcut (fun c1r I9 => c7i (nth c1r 0) a0S I9 R E) fun j1 =>
 xloop [0, 5] [f8J, (Value.int .i64 0)] w9 fun τ_75 S7 next4 =>
 d5t (τ_75 0) a0S (τ_75 5) S7 next4 j1 R E
noncomputable def c99 : Code := Tryd.f99.body.getD .skip
def h99 : Hint := (.seq .none (.seq .none (.cut [0] (.seq .none (.block (.loop [0, 5] (.seq (.seq .none (.cond .none .none)) (.seq (.block .none) .none))))) (.cut [0] (.seq .none (.block (.loop [0, 6] (.seq (.seq .none (.cond .none .none)) (.seq (.block .none) .none))))) (.seq .none .none)))))
theorem f8K (x0 x1 : Value) (w : World) (R : Value → World → Prop) (E : Pan) : F99 x0 x1 w R E = callX Tryd.prog [.tmp 4] c99 h99 [x0, x1] w R E := by kernel_rfl
theorem f8L {x0 x1 : Value} {w : World} {R : Value → World → Prop} {E : Pan} (h : F99 x0 x1 w R E) : Cv Tryd.prog 99 #[x0, x1] w R E := by
 refine h8 (args := [x0, x1]) (c := c99) (h := h99) (rs := [.tmp 4]) Tryd.func99 (by kernel_rfl) (by kernel_rfl) (Nat.le_of_ble_eq_true (by kernel_rfl)) (by kernel_rfl) (by kernel_rfl) (by kernel_rfl) ?_
 rw [← f8K]
 exact h
def c1K (x0 : Value) (w : World) (R : Value → World → Prop) (_E : Pan) : Prop :=
 ∀ _τ : Fr, (R x0 w)
def c8F (x0 x3 x5 : Value) (w : World) (next2 : List Value → World → Prop) (j1 : List Value → World → Prop) (_R : Value → World → Prop) (E : Pan) : Prop :=
 opK Tryd.prog E (xV (Instr.fieldAt 30 x3 3)) w fun f8M z6 =>
 opK Tryd.prog E (xV (Instr.loadAt 28 f8M)) z6 fun b9o w8 =>
 opK Tryd.prog E (xBuiltin .len #[28] 3 [false] [b9o]) w8 fun b5B z7 =>
 opK Tryd.prog E (xBin .lss 3 (.tmp 19) (.tmp 22) x5 b5B) z7 fun c6T B3 =>
 xcond c6T
 (opK Tryd.prog E (xV (Instr.fieldAt 30 x3 3)) B3 fun b5u w3 =>
 opK Tryd.prog E (xV (Instr.loadAt 28 b5u)) w3 fun a7H B8 =>
 opK Tryd.prog E (xV (Instr.indexAt 28 a7H x5)) B8 fun b5M C7 =>
 opK Tryd.prog E (xV (Instr.loadAt 30 b5M)) C7 fun b5N B9 =>
 opK Tryd.prog E (xCall (Value.func (.func 100) #[] #[]) [x0, b5N]) B9 fun b0Q D4 =>
 opK Tryd.prog E (xBin .add 3 (.tmp 24) (.const (Value.int .i64 1)) x5 (Value.int .i64 1)) D4 fun c4l E6 =>
 next2 [b0Q, c4l] E6)
 (j1 [x0] B3)
def d2f (x0 x1 : Value) (w : World) (R : Value → World → Prop) (E : Pan) : Prop :=
 opK Tryd.prog E (xV (Instr.box 30 x1)) w fun a0S w_2 =>
 opK Tryd.prog E (xV (Instr.fieldAt 30 a0S 0)) w_2 fun a3i w_4 =>
 opK Tryd.prog E (xV (Instr.loadAt 3 a3i)) w_4 fun a6l w_6 =>
 opK Tryd.prog E (xV (Instr.fieldAt 30 a0S 1)) w_6 fun b7K w_8 =>
 opK Tryd.prog E (xV (Instr.loadAt 2 b7K)) w_8 fun b4J m2 =>
 opK Tryd.prog E (xV (convert 2 41 b4J)) m2 fun b0J m8 =>
 opK Tryd.prog E (xV (Instr.fieldAt 30 a0S 2)) m8 fun b5y m5 =>
 opK Tryd.prog E (xV (Instr.loadAt 9 b5y)) m5 fun b3b o6 =>
 opK Tryd.prog E (xV (Instr.fieldAt 30 a0S 3)) o6 fun a4E p8 =>
 opK Tryd.prog E (xV (Instr.loadAt 28 a4E)) p8 fun b5z o4 =>
 opK Tryd.prog E (xBuiltin .len #[28] 3 [false] [b5z]) o4 fun b5A r6 =>
 opK Tryd.prog E (xV (Instr.build 114 #[(0, (Value.int .i64 0)), (1, b5A), (2, (Value.int .i64 0)), (3, (Value.int .i64 0))])) r6 fun c4c q6 =>
 opK Tryd.prog E (xCall (Value.func (.func 72) #[] #[]) [x0, (Value.int .u8 69), a6l, b0J, b3b, c4c]) q6 fun c4d u1 =>
 xcut (fun c3Q w9 => c1K (nth c3Q 0) w9 R E) fun j1 =>
 xloop [0, 5] [c4d, (Value.int .i64 0)] u1 fun τ_49 D7 next2 =>
 c8F (τ_49 0) a0S (τ_49 5) D7 next2 j1 R E
noncomputable def f8N : Code := Tryd.f100.body.getD .skip
def f8O : Hint := (.seq .none (.seq .none (.cut [0] (.seq .none (.block (.loop [0, 5] (.seq (.seq .none (.cond .none .none)) (.seq (.block .none) .none))))) (.seq .none .none))))
theorem e4F (x0 x1 : Value) (w : World) (R : Value → World → Prop) (E : Pan) : d2f x0 x1 w R E = callX Tryd.prog [.tmp 4] f8N f8O [x0, x1] w R E := by kernel_rfl
theorem e4G {x0 x1 : Value} {w : World} {R : Value → World → Prop} {E : Pan} (h : d2f x0 x1 w R E) : Cv Tryd.prog 100 #[x0, x1] w R E := by
 refine h8 (args := [x0, x1]) (c := f8N) (h := f8O) (rs := [.tmp 4]) Tryd.func100 (by kernel_rfl) (by kernel_rfl) (Nat.le_of_ble_eq_true (by kernel_rfl)) (by kernel_rfl) (by kernel_rfl) (by kernel_rfl) ?_
 rw [← e4F]
 exact h
end Go.Proofs.YthldnpmfelniiaaDoor
