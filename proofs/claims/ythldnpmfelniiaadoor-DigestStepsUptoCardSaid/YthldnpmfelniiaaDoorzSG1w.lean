/- The second reading of some of the program's functions, printed by gen2.py off the code; each is held against the code by the kernel. -/
import Derived.Test.YthldnpmfelniiaaDoorProg
import Derived.Test.YthldnpmfelniiaaDoorzSK0
import Derived.KernelRfl
namespace Go.Proofs.YthldnpmfelniiaaDoor
open Go.RowKit
set_option maxRecDepth 100000
def F5 (x0 x1 : Value) (w : World) (R : Value → World → Prop) (E : Pan) : Prop :=
 opK Tryd.prog E (xCall (Value.func (.func 21) #[] #[]) []) w fun b3S w_2 =>
 opK Tryd.prog E (xV (Op.unary .not b3S)) w_2 fun a7m w_4 =>
 xcond a7m
 (R (Value.bool false) w_4)
 (opK Tryd.prog E (xBuiltin .append #[40, 40] 40 [true, false] [(Value.slice none 0 0), x0]) w_4 fun d5h w_6 =>
 opK Tryd.prog E (xV (Instr.buildSlice 40 1 #[(0, x1)])) w_6 fun b4T w_8 =>
 opK Tryd.prog E (xBuiltin .append #[40, 40] 40 [false, false] [d5h, b4T]) w_8 fun b4U l0 =>
 opK Tryd.prog E (xCall (Value.func (.func 22) #[] #[]) [b4U]) l0 fun c8I q9 =>
 opK Tryd.prog E (xCall (Value.func (.func 22) #[] #[]) [x0]) q9 fun b2r o7 =>
 opK Tryd.prog E (xV (convert 5 41 x1)) o7 fun X3 s4 =>
 opK Tryd.prog E (xBin .xor 41 (.tmp 14) (.tmp 16) b2r X3) s4 fun X4 s5 =>
 opK Tryd.prog E (xBin .mul 41 (.tmp 17) (.const (Value.int .u64 1099511628211)) X4 (Value.int .u64 1099511628211)) s5 fun X5 r7 =>
 opK Tryd.prog E (xBin .eql 41 (.tmp 12) (.tmp 18) c8I X5) r7 fun X6 u2 =>
 R X6 u2)
noncomputable def c5 : Code := Tryd.f5.body.getD .skip
def h5 : Hint := (.seq .none (.seq (.seq .none (.cond (.seq .none .none) .none)) (.seq .none .none)))
theorem d1D (x0 x1 : Value) (w : World) (R : Value → World → Prop) (E : Pan) : F5 x0 x1 w R E = callX Tryd.prog [.tmp 4] c5 h5 [x0, x1] w R E := by kernel_rfl
theorem d1E {x0 x1 : Value} {w : World} {R : Value → World → Prop} {E : Pan} (h : F5 x0 x1 w R E) : Cv Tryd.prog 5 #[x0, x1] w R E := by
 refine f8 (args := [x0, x1]) (c := c5) (h := h5) (rs := [.tmp 4]) Tryd.func5 (by kernel_rfl) (by kernel_rfl) (Nat.le_of_ble_eq_true (by kernel_rfl)) (by kernel_rfl) (by kernel_rfl) (by kernel_rfl) ?_
 rw [← d1D]
 exact h
def F21 (w : World) (R : Value → World → Prop) (E : Pan) : Prop :=
 opK Tryd.prog E (xV (Instr.build 67 #[(0, (Value.string ⟨#[120]⟩))])) w fun a2K w_2 =>
 opK Tryd.prog E (xV (Instr.buildSlice 22 1 #[(0, a2K)])) w_2 fun a8V w_4 =>
 opK Tryd.prog E (xV (Instr.build 25 #[(0, a8V)])) w_4 fun a5G w_6 =>
 opK Tryd.prog E (xCall (Value.func (.func 31) #[] #[]) [a5G]) w_6 fun a7k w_8 =>
 opK Tryd.prog E (xV (Instr.extract a7k 0)) w_8 fun a7l l0 =>
 opK Tryd.prog E (xV (Instr.extract a7k 1)) l0 fun b0n q9 =>
 opK Tryd.prog E (xBin .eql 34 (.tmp 10) (.const (Value.int .i64 0)) b0n (Value.int .i64 0)) q9 fun a1T o7 =>
 opK Tryd.prog E (gsem (asB a1T) true (xBuiltin .len #[40] 3 [false] [(gval (asB a1T) true a7l)])) o7 fun c8J s4 =>
 opK Tryd.prog E (gsem (asB a1T) true (xBin .eql 3 (.tmp 14) (.const (Value.int .i64 16)) c8J (Value.int .i64 16))) s4 fun c8K s5 =>
 opK Tryd.prog E (xPick a1T c8K (Value.bool false)) s5 fun a6l r7 =>
 opK Tryd.prog E (gsem (asB a6l) true (xV (Instr.indexAt 40 (gval (asB a6l) true a7l) (Value.int .i64 0)))) r7 fun X6 u2 =>
 opK Tryd.prog E (gsem (asB a6l) true (xV (Instr.loadAt 5 X6))) u2 fun a1d u5 =>
 opK Tryd.prog E (gsem (asB a6l) true (xBin .eql 5 (.tmp 20) (.const (Value.int .u8 68)) a1d (Value.int .u8 68))) u5 fun c8L y5 =>
 opK Tryd.prog E (xPick a6l c8L (Value.bool false)) y5 fun a6m C1 =>
 opK Tryd.prog E (gsem (asB a6m) true (xV (Instr.buildSlice 40 1 #[(0, (Value.int .u8 97))]))) C1 fun b2s C5 =>
 opK Tryd.prog E (gsem (asB a6m) true (xV (convert 40 40 b2s))) C5 fun b2t B8 =>
 opK Tryd.prog E (gsem (asB a6m) true (xCall (Value.func (.func 22) #[] #[]) [b2t])) B8 fun b2u C8 =>
 opK Tryd.prog E (gsem (asB a6m) true (xBin .eql 41 (.tmp 26) (.const (Value.int .u64 12638187200555641996)) b2u (Value.int .u64 12638187200555641996))) C8 fun b2v G1 =>
 opK Tryd.prog E (xPick a6m b2v (Value.bool false)) G1 fun b2w F6 =>
 R b2w F6
noncomputable def c21 : Code := Tryd.f21.body.getD .skip
def h21 : Hint := (.seq .none (.seq .none (.seq .none .none)))
theorem c8M (w : World) (R : Value → World → Prop) (E : Pan) : F21  w R E = callX Tryd.prog [.tmp 0] c21 h21 [] w R E := by kernel_rfl
theorem c8N {w : World} {R : Value → World → Prop} {E : Pan} (h : F21  w R E) : Cv Tryd.prog 21 #[] w R E := by
 refine f8 (args := []) (c := c21) (h := h21) (rs := [.tmp 0]) Tryd.func21 (by kernel_rfl) (by kernel_rfl) (Nat.zero_le _) (by kernel_rfl) (by kernel_rfl) (by kernel_rfl) ?_
 rw [← c8M]
 exact h
def b2x (x3 : Value) (w : World) (R : Value → World → Prop) (_E : Pan) : Prop :=
 ∀ _τ : Fr, (R x3 w)
def b7p (x3 x6 x7 x8 : Value) (w : World) (next2 : List Value → World → Prop) (j1 : List Value → World → Prop) (_R : Value → World → Prop) (E : Pan) : Prop :=
 opK Tryd.prog E (xBin .lss 3 (.tmp 8) (.tmp 7) x8 x7) w fun b8e w_6 =>
 xcond b8e
 (opK Tryd.prog E (xV (Instr.indexAt 40 x6 x8)) w_6 fun b4T w_8 =>
 opK Tryd.prog E (xV (Instr.loadAt 5 b4T)) w_8 fun b4U l0 =>
 opK Tryd.prog E (xV (convert 5 41 b4U)) l0 fun c8O q9 =>
 opK Tryd.prog E (xBin .xor 41 (.tmp 12) (.tmp 14) x3 c8O) q9 fun c8P o7 =>
 opK Tryd.prog E (xBin .mul 41 (.tmp 15) (.const (Value.int .u64 1099511628211)) c8P (Value.int .u64 1099511628211)) o7 fun X3 s4 =>
 opK Tryd.prog E (xBin .add 3 (.tmp 8) (.const (Value.int .i64 1)) x8 (Value.int .i64 1)) s4 fun X4 s5 =>
 next2 [X3, X4] s5)
 (j1 [x3] w_6)
def F22 (x0 : Value) (w : World) (R : Value → World → Prop) (E : Pan) : Prop :=
 xcut (fun l_1 w_2 => b2x (nth l_1 0) w_2 R E) fun j1 =>
 opK Tryd.prog E (xBuiltin .len #[40] 3 [false] [x0]) w fun a4G w_4 =>
 xloop [3, 8] [(Value.int .u64 14695981039346656037), (Value.int .i64 0)] w_4 fun τ_19 r7 next2 =>
 b7p (τ_19 3) x0 a4G (τ_19 8) r7 next2 j1 R E
noncomputable def c22 : Code := Tryd.f22.body.getD .skip
def h22 : Hint := (.seq .none (.seq .none (.cut [3] (.seq .none (.block (.loop [3, 8] (.seq .none (.seq (.cond .none .none) (.seq (.block (.seq .none .none)) .none)))))) (.seq .none .none))))
theorem c8Q (x0 : Value) (w : World) (R : Value → World → Prop) (E : Pan) : F22 x0 w R E = callX Tryd.prog [.tmp 2] c22 h22 [x0] w R E := by kernel_rfl
theorem c8R {x0 : Value} {w : World} {R : Value → World → Prop} {E : Pan} (h : F22 x0 w R E) : Cv Tryd.prog 22 #[x0] w R E := by
 refine f8 (args := [x0]) (c := c22) (h := h22) (rs := [.tmp 2]) Tryd.func22 (by kernel_rfl) (by kernel_rfl) (Nat.le_of_ble_eq_true (by kernel_rfl)) (by kernel_rfl) (by kernel_rfl) (by kernel_rfl) ?_
 rw [← c8Q]
 exact h
def b2y (x1 x5 x9 : Value) (w : World) (R : Value → World → Prop) (E : Pan) : Prop :=
 ∀ _τ : Fr, (opK Tryd.prog E (xV (Instr.loadAt 116 x9)) w fun c8S G1 =>
 opK Tryd.prog E (xV (Instr.fieldAt 25 x1 1)) G1 fun c8T F6 =>
 opK Tryd.prog E (xV (Instr.loadAt 23 c8T)) F6 fun c8U G2 =>
 opK Tryd.prog E (xCall c8S [c8U]) G2 fun _t39_41 K5 =>
 opK Tryd.prog E (xV (Instr.loadAt 40 x5)) K5 fun c8V J1 =>
 R (Value.tuple #[c8V, (Value.int .i64 0)]) J1)
def b7q (_x1 _x5 x6 _x9 x22 x23 x24 : Value) (w : World) (next2 : List Value → World → Prop) (j1 : List Value → World → Prop) (_R : Value → World → Prop) (E : Pan) : Prop :=
 opK Tryd.prog E (xBin .lss 3 (.tmp 24) (.tmp 23) x24 x23) w fun c8W U2 =>
 xcond c8W
 (opK Tryd.prog E (xV (Instr.indexAt 22 x22 x24)) U2 fun c8X W3 =>
 opK Tryd.prog E (xV (Instr.loadAt 67 c8X)) W3 fun c8Y U3 =>
 opK Tryd.prog E (xV (Instr.alloc 67 true (.tuple #[]))) U3 fun b2z W4 =>
 opK Tryd.prog E (xU (Instr.storeAt 67 b2z c8Y)) W4 fun _z_61 Z5 =>
 opK Tryd.prog E (xV (Instr.loadAt 115 x6)) Z5 fun c8Z S9 =>
 opK Tryd.prog E (xV (Instr.fieldAt 67 b2z 1)) S9 fun c9a W5 =>
 opK Tryd.prog E (xV (Instr.loadAt 3 c9a)) W5 fun c9b Z6 =>
 opK Tryd.prog E (xV (Instr.fieldAt 67 b2z 0)) Z6 fun c9c U4 =>
 opK Tryd.prog E (xV (Instr.loadAt 9 c9c)) U4 fun c9d Z7 =>
 opK Tryd.prog E (xV (Instr.build 114 #[])) Z7 fun c9e a0p =>
 opK Tryd.prog E (xCall c8Z [(Value.int .u8 68), (Value.int .i64 0), c9b, c9d, c9e]) a0p fun _t34_75 X2 =>
 opK Tryd.prog E (xBin .add 3 (.tmp 24) (.const (Value.int .i64 1)) x24 (Value.int .i64 1)) X2 fun c9f Z8 =>
 next2 [c9f] Z8)
 (j1 [] U2)
def F31 (x0 : Value) (w : World) (R : Value → World → Prop) (E : Pan) : Prop :=
 opK Tryd.prog E (xV (Instr.box 25 x0)) w fun p8 w_2 =>
 opK Tryd.prog E (xV (Instr.loadAt 25 p8)) w_2 fun d1F w_4 =>
 opK Tryd.prog E (xCall (Value.func (.func 27) #[] #[]) [d1F]) w_4 fun c0B w_6 =>
 opK Tryd.prog E (xBin .neq 34 (.tmp 14) (.const (Value.int .i64 0)) c0B (Value.int .i64 0)) w_6 fun d1G w_8 =>
 xcond d1G
 (R (Value.tuple #[(Value.slice none 0 0), c0B]) w_8)
 (opK Tryd.prog E (xV (Instr.alloc 40 true (.tuple #[]))) w_8 fun b9V l0 =>
 opK Tryd.prog E (xV (Instr.makeFunc (.func 68) #[] #[b9V])) l0 fun b2A q9 =>
 opK Tryd.prog E (xV (Instr.alloc 115 true (.tuple #[]))) q9 fun a8C o7 =>
 opK Tryd.prog E (xU (Instr.storeAt 115 a8C b2A)) o7 fun _z_15 s4 =>
 opK Tryd.prog E (xV (Instr.alloc 103 true (.tuple #[]))) s4 fun b0p s5 =>
 opK Tryd.prog E (xV (Instr.makeFunc (.func 69) #[] #[a8C, b0p])) s5 fun X5 r7 =>
 opK Tryd.prog E (xU (Instr.storeAt 103 b0p X5)) r7 fun _z_21 u2 =>
 opK Tryd.prog E (xV (Instr.alloc 108 true (.tuple #[]))) u2 fun b4V u5 =>
 opK Tryd.prog E (xV (Instr.makeFunc (.func 70) #[] #[a8C, b0p, b4V])) u5 fun c9g y5 =>
 opK Tryd.prog E (xU (Instr.storeAt 108 b4V c9g)) y5 fun _z_27 C1 =>
 opK Tryd.prog E (xV (Instr.alloc 116 true (.tuple #[]))) C1 fun b0q C5 =>
 opK Tryd.prog E (xV (Instr.makeFunc (.func 71) #[] #[a8C, b4V, b0p, b0q])) C5 fun a5Y B8 =>
 opK Tryd.prog E (xU (Instr.storeAt 116 b0q a5Y)) B8 fun _z_33 C8 =>
 xcut (fun _ N3 => b2y p8 b9V b0q N3 R E) fun j1 =>
 opK Tryd.prog E (xV (Instr.fieldAt 25 p8 0)) C8 fun c9h P9 =>
 opK Tryd.prog E (xV (Instr.loadAt 22 c9h)) P9 fun b7r M6 =>
 opK Tryd.prog E (xBuiltin .len #[22] 3 [false] [b7r]) M6 fun c9i R6 =>
 xloop [24] [(Value.int .i64 0)] R6 fun τ_79 W6 next2 =>
 b7q p8 b9V a8C b0q b7r c9i (τ_79 24) W6 next2 j1 R E)
noncomputable def c31 : Code := Tryd.f31.body.getD .skip
def h31 : Hint := (.seq .none (.seq (.seq .none (.seq .none (.cond (.seq .none .none) .none))) (.seq .none (.seq .none (.seq .none (.seq .none (.seq .none (.seq .none (.seq .none (.seq .none (.cut [] (.seq .none (.block (.loop [24] (.seq .none (.seq (.cond .none .none) (.seq (.block (.seq .none .none)) .none)))))) (.seq .none (.seq .none .none)))))))))))))
theorem c9j (x0 : Value) (w : World) (R : Value → World → Prop) (E : Pan) : F31 x0 w R E = callX Tryd.prog [.tmp 2, .tmp 3] c31 h31 [x0] w R E := by kernel_rfl
theorem c9k {x0 : Value} {w : World} {R : Value → World → Prop} {E : Pan} (h : F31 x0 w R E) : Cv Tryd.prog 31 #[x0] w R E := by
 refine f8 (args := [x0]) (c := c31) (h := h31) (rs := [.tmp 2, .tmp 3]) Tryd.func31 (by kernel_rfl) (by kernel_rfl) (Nat.le_of_ble_eq_true (by kernel_rfl)) (by kernel_rfl) (by kernel_rfl) (by kernel_rfl) ?_
 rw [← c9j]
 exact h
def b7s (x5 x39 x40 : Value) (w : World) (next2 : List Value → World → Prop) (R : Value → World → Prop) (E : Pan) : Prop :=
 opK Tryd.prog E (xBin .lss 3 (.tmp 40) (.const (Value.int .i64 4)) x40 (Value.int .i64 4)) w fun c9l y5 =>
 xcond c9l
 (opK Tryd.prog E (xV (Instr.index 114 x39 x40)) y5 fun c9m C1 =>
 opK Tryd.prog E (xV (Instr.loadAt 40 x5)) C1 fun c9n C5 =>
 opK Tryd.prog E (xV (convert 3 5 c9m)) C5 fun c9o B8 =>
 opK Tryd.prog E (xV (Instr.buildSlice 40 1 #[(0, c9o)])) B8 fun c9p C8 =>
 opK Tryd.prog E (xBuiltin .append #[40, 40] 40 [false, false] [c9n, c9p]) C8 fun c9q G1 =>
 opK Tryd.prog E (xU (Instr.storeAt 40 x5 c9q)) G1 fun _z_37 F6 =>
 opK Tryd.prog E (xBin .add 3 (.tmp 40) (.const (Value.int .i64 1)) x40 (Value.int .i64 1)) F6 fun c9r G2 =>
 next2 [c9r] G2)
 (R (Value.tuple #[]) y5)
def b2B (x3 x5 x10 : Value) (w : World) (R : Value → World → Prop) (E : Pan) : Prop :=
 ∀ _τ : Fr, (opK Tryd.prog E (xV (Instr.loadAt 40 x5)) w fun c9s o7 =>
 opK Tryd.prog E (xBuiltin .append #[40, 9] 40 [false, false] [c9s, x3]) o7 fun c9t s4 =>
 opK Tryd.prog E (xV (Instr.buildSlice 40 1 #[(0, (Value.int .u8 0))])) s4 fun c9u s5 =>
 opK Tryd.prog E (xBuiltin .append #[40, 40] 40 [false, false] [c9t, c9u]) s5 fun c9v r7 =>
 opK Tryd.prog E (xU (Instr.storeAt 40 x5 c9v)) r7 fun _z_21 u2 =>
 opK Tryd.prog E (xV (Instr.loadAt 114 x10)) u2 fun c9w u5 =>
 xloop [40] [(Value.int .i64 0)] u5 fun τ_41 K5 next2 =>
 b7s x5 c9w (τ_41 40) K5 next2 R E)
def b7t (x2 _x3 x5 _x10 x20 : Value) (w : World) (next3 : List Value → World → Prop) (j1 : List Value → World → Prop) (_R : Value → World → Prop) (E : Pan) : Prop :=
 opK Tryd.prog E (xBin .lss 3 (.tmp 20) (.const (Value.int .i64 8)) x20 (Value.int .i64 8)) w fun c9x N3 =>
 xcond c9x
 (dX N3 fun a8R =>
 qP Tryd.prog (xV (convert 2 41 x2)) fun c9y =>
 qP Tryd.prog (xBin .mul 3 (.const (Value.int .i64 8)) (.tmp 26) (Value.int .i64 8) x20) fun b1I =>
 qP Tryd.prog (xBin .sub 3 (.const (Value.int .i64 56)) (.tmp 27) (Value.int .i64 56) b1I) fun c9z =>
 qP Tryd.prog (xBin .shr 41 (.tmp 25) (.tmp 28) c9y c9z) fun b0S =>
 qP Tryd.prog (xV (convert 41 5 b0S)) fun c9A =>
 qL Tryd.prog a8R (blk x5) (xV (Instr.loadAt 40 x5)) fun c9B =>
 opK Tryd.prog E (xV (Instr.buildSlice 40 1 #[(0, c9A)])) a8R fun c9C b1X =>
 keepX [(blk x5)] a8R b1X (opK Tryd.prog E (xBuiltin .append #[40, 40] 40 [false, false] [c9B, c9C]) b1X fun c9D b2j =>
 keepX [] b1X b2j (opK Tryd.prog E (xU (Instr.storeAt 40 x5 c9D)) b2j fun _z_58 b9W =>
 keepX [] b2j b9W (opK Tryd.prog E (xBin .add 3 (.tmp 20) (.const (Value.int .i64 1)) x20 (Value.int .i64 1)) b9W fun c9E c8t =>
 next3 [c9E] c8t))))
 (j1 [] N3)
def F68 (x0 x1 x2 x3 x4 x5 : Value) (w : World) (R : Value → World → Prop) (E : Pan) : Prop :=
 opK Tryd.prog E (xV (Instr.box 114 x4)) w fun b0k w_2 =>
 opK Tryd.prog E (xV (Instr.loadAt 40 x5)) w_2 fun d1H w_4 =>
 opK Tryd.prog E (xV (convert 3 5 x1)) w_4 fun d1I w_6 =>
 opK Tryd.prog E (xV (Instr.buildSlice 40 2 #[(0, x0), (1, d1I)])) w_6 fun d1J w_8 =>
 opK Tryd.prog E (xBuiltin .append #[40, 40] 40 [false, false] [d1H, d1J]) w_8 fun d1K l0 =>
 opK Tryd.prog E (xU (Instr.storeAt 40 x5 d1K)) l0 fun _z_11 q9 =>
 xcut (fun _ J1 => b2B x3 x5 b0k J1 R E) fun j1 =>
 xloop [20] [(Value.int .i64 0)] q9 fun τ_62 d5i next3 =>
 b7t x2 x3 x5 b0k (τ_62 20) d5i next3 j1 R E
noncomputable def c68 : Code := Tryd.f68.body.getD .skip
def h68 : Hint := (.seq .none (.seq .none (.cut [] (.seq .none (.block (.loop [20] (.seq .none (.seq (.cond .none .none) (.seq (.block (.seq .none (.reg [(0, 8388608, 32), (0, 16777216, 4), (2, 33554432, 16777216), (0, 67108864, 2048), (8, 134217728, 67108864), (16, 268435456, 134217728), (36, 536870912, 301989888), (64, 1073741824, 536870912), (128, 2147483648, 1073741824), (257, 4294967296, 2155872256), (1023, 0, 4294967328)] [0, 1, 1, 1, 1, 1, 1, 1, 1, 0, 0] (.early 1 (.early 2 (.early 3 (.early 4 (.early 5 (.early 6 (.early 7 (.load 0 (.step 8 (.step 9 (.step 10 .done)))))))))))))) .none)))))) (.seq .none (.seq .none (.block (.loop [40] (.seq .none (.seq (.cond .none .none) (.seq (.block (.seq .none .none)) .none))))))))))
theorem c9F (x0 x1 x2 x3 x4 x5 : Value) (w : World) (R : Value → World → Prop) (E : Pan) : F68 x0 x1 x2 x3 x4 x5 w R E = callX Tryd.prog [] c68 h68 [x0, x1, x2, x3, x4, x5] w R E := by kernel_rfl
theorem c9G {x0 x1 x2 x3 x4 x5 : Value} {w : World} {R : Value → World → Prop} {E : Pan} (h : F68 x0 x1 x2 x3 x4 x5 w R E) : Cv Tryd.prog 68 #[x0, x1, x2, x3, x4, x5] w R E := by
 refine f8 (args := [x0, x1, x2, x3, x4, x5]) (c := c68) (h := h68) (rs := []) Tryd.func68 (by kernel_rfl) (by kernel_rfl) (Nat.le_of_ble_eq_true (by kernel_rfl)) (by kernel_rfl) (by kernel_rfl) (by kernel_rfl) ?_
 rw [← c9F]
 exact h
def b7u (x2 x19 x20 x21 : Value) (w : World) (next1 : List Value → World → Prop) (R : Value → World → Prop) (E : Pan) : Prop :=
 opK Tryd.prog E (xBin .lss 3 (.tmp 21) (.tmp 20) x21 x20) w fun b1k C8 =>
 xcond b1k
 (opK Tryd.prog E (xV (Instr.indexAt 28 x19 x21)) C8 fun c9H G1 =>
 opK Tryd.prog E (xV (Instr.loadAt 30 c9H)) G1 fun c9I F6 =>
 opK Tryd.prog E (xV (Instr.alloc 30 true (.tuple #[]))) F6 fun c0C G2 =>
 opK Tryd.prog E (xU (Instr.storeAt 30 c0C c9I)) G2 fun _z_41 K5 =>
 opK Tryd.prog E (xV (Instr.loadAt 103 x2)) K5 fun b0P J1 =>
 opK Tryd.prog E (xV (Instr.loadAt 30 c0C)) J1 fun b0Q N3 =>
 opK Tryd.prog E (xCall b0P [b0Q]) N3 fun _t27_47 P9 =>
 opK Tryd.prog E (xBin .add 3 (.tmp 21) (.const (Value.int .i64 1)) x21 (Value.int .i64 1)) P9 fun b0R M6 =>
 next1 [b0R] M6)
 (R (Value.tuple #[]) C8)
def F69 (x0 x1 x2 : Value) (w : World) (R : Value → World → Prop) (E : Pan) : Prop :=
 opK Tryd.prog E (xV (Instr.box 30 x0)) w fun b2C w_2 =>
 opK Tryd.prog E (xV (Instr.loadAt 115 x1)) w_2 fun a7m w_4 =>
 opK Tryd.prog E (xV (Instr.fieldAt 30 b2C 0)) w_4 fun b1p w_6 =>
 opK Tryd.prog E (xV (Instr.loadAt 3 b1p)) w_6 fun a1C w_8 =>
 opK Tryd.prog E (xV (Instr.fieldAt 30 b2C 1)) w_8 fun a5S l0 =>
 opK Tryd.prog E (xV (Instr.loadAt 2 a5S)) l0 fun b1C q9 =>
 opK Tryd.prog E (xV (Instr.fieldAt 30 b2C 2)) q9 fun a1T o7 =>
 opK Tryd.prog E (xV (Instr.loadAt 9 a1T)) o7 fun b1D s4 =>
 opK Tryd.prog E (xV (Instr.fieldAt 30 b2C 3)) s4 fun b1E s5 =>
 opK Tryd.prog E (xV (Instr.loadAt 28 b1E)) s5 fun b1F r7 =>
 opK Tryd.prog E (xBuiltin .len #[28] 3 [false] [b1F]) r7 fun a5X u2 =>
 opK Tryd.prog E (xV (Instr.build 114 #[(0, (Value.int .i64 0)), (1, a5X)])) u2 fun b1G u5 =>
 opK Tryd.prog E (xCall a7m [(Value.int .u8 69), a1C, b1C, b1D, b1G]) u5 fun _t17_25 y5 =>
 opK Tryd.prog E (xV (Instr.fieldAt 30 b2C 3)) y5 fun b1H C1 =>
 opK Tryd.prog E (xV (Instr.loadAt 28 b1H)) C1 fun a8q C5 =>
 opK Tryd.prog E (xBuiltin .len #[28] 3 [false] [a8q]) C5 fun a5Y B8 =>
 xloop [21] [(Value.int .i64 0)] B8 fun τ_51 R6 next1 =>
 b7u x2 a8q a5Y (τ_51 21) R6 next1 R E
noncomputable def c69 : Code := Tryd.f69.body.getD .skip
def h69 : Hint := (.seq .none (.seq .none (.seq .none (.block (.loop [21] (.seq .none (.seq (.cond .none .none) (.seq (.block (.seq .none .none)) .none))))))))
theorem c9J (x0 x1 x2 : Value) (w : World) (R : Value → World → Prop) (E : Pan) : F69 x0 x1 x2 w R E = callX Tryd.prog [] c69 h69 [x0, x1, x2] w R E := by kernel_rfl
theorem c9K {x0 x1 x2 : Value} {w : World} {R : Value → World → Prop} {E : Pan} (h : F69 x0 x1 x2 w R E) : Cv Tryd.prog 69 #[x0, x1, x2] w R E := by
 refine f8 (args := [x0, x1, x2]) (c := c69) (h := h69) (rs := []) Tryd.func69 (by kernel_rfl) (by kernel_rfl) (Nat.le_of_ble_eq_true (by kernel_rfl)) (by kernel_rfl) (by kernel_rfl) (by kernel_rfl) ?_
 rw [← c9J]
 exact h
def b7v (x3 x34 x35 x36 : Value) (w : World) (next2 : List Value → World → Prop) (R : Value → World → Prop) (E : Pan) : Prop :=
 opK Tryd.prog E (xBin .lss 3 (.tmp 36) (.tmp 35) x36 x35) w fun c9L G1 =>
 xcond c9L
 (opK Tryd.prog E (xV (Instr.indexAt 31 x34 x36)) G1 fun c9M F6 =>
 opK Tryd.prog E (xV (Instr.loadAt 33 c9M)) F6 fun c9N G2 =>
 opK Tryd.prog E (xV (Instr.alloc 33 true (.tuple #[]))) G2 fun c0D K5 =>
 opK Tryd.prog E (xU (Instr.storeAt 33 c0D c9N)) K5 fun _z_43 J1 =>
 opK Tryd.prog E (xV (Instr.loadAt 108 x3)) J1 fun c9O N3 =>
 opK Tryd.prog E (xV (Instr.loadAt 33 c0D)) N3 fun c9P P9 =>
 opK Tryd.prog E (xCall c9O [c9P]) P9 fun _t42_49 M6 =>
 opK Tryd.prog E (xBin .add 3 (.tmp 36) (.const (Value.int .i64 1)) x36 (Value.int .i64 1)) M6 fun c9Q R6 =>
 next2 [c9Q] R6)
 (R (Value.tuple #[]) G1)
def b2D (x3 x4 : Value) (w : World) (R : Value → World → Prop) (E : Pan) : Prop :=
 ∀ _τ : Fr, (opK Tryd.prog E (xV (Instr.fieldAt 33 x4 3)) w fun c9R C5 =>
 opK Tryd.prog E (xV (Instr.loadAt 31 c9R)) C5 fun b7w B8 =>
 opK Tryd.prog E (xBuiltin .len #[31] 3 [false] [b7w]) B8 fun c9S C8 =>
 xloop [36] [(Value.int .i64 0)] C8 fun τ_53 U2 next2 =>
 b7v x3 b7w c9S (τ_53 36) U2 next2 R E)
def b7x (x2 _x3 _x4 x23 x24 x25 : Value) (w : World) (next3 : List Value → World → Prop) (j1 : List Value → World → Prop) (_R : Value → World → Prop) (E : Pan) : Prop :=
 opK Tryd.prog E (xBin .lss 3 (.tmp 25) (.tmp 24) x25 x24) w fun c9T S9 =>
 xcond c9T
 (opK Tryd.prog E (xV (Instr.indexAt 28 x23 x25)) S9 fun c9U W5 =>
 opK Tryd.prog E (xV (Instr.loadAt 30 c9U)) W5 fun c9V Z6 =>
 opK Tryd.prog E (xV (Instr.alloc 30 true (.tuple #[]))) Z6 fun c0E U4 =>
 opK Tryd.prog E (xU (Instr.storeAt 30 c0E c9V)) U4 fun _z_71 Z7 =>
 opK Tryd.prog E (xV (Instr.loadAt 103 x2)) Z7 fun c9W a0p =>
 opK Tryd.prog E (xV (Instr.loadAt 30 c0E)) a0p fun c9X X2 =>
 opK Tryd.prog E (xCall c9W [c9X]) X2 fun _t31_77 Z8 =>
 opK Tryd.prog E (xBin .add 3 (.tmp 25) (.const (Value.int .i64 1)) x25 (Value.int .i64 1)) Z8 fun c9Y W6 =>
 next3 [c9Y] W6)
 (j1 [] S9)
def F70 (x0 x1 x2 x3 : Value) (w : World) (R : Value → World → Prop) (E : Pan) : Prop :=
 opK Tryd.prog E (xV (Instr.box 33 x0)) w fun a2K w_2 =>
 opK Tryd.prog E (xV (Instr.loadAt 115 x1)) w_2 fun a1B w_4 =>
 opK Tryd.prog E (xV (Instr.fieldAt 33 a2K 0)) w_4 fun a1e w_6 =>
 opK Tryd.prog E (xV (Instr.loadAt 3 a1e)) w_6 fun a4O w_8 =>
 opK Tryd.prog E (xV (Instr.fieldAt 33 a2K 1)) w_8 fun a6C l0 =>
 opK Tryd.prog E (xV (Instr.loadAt 3 a6C)) l0 fun c9Z q9 =>
 opK Tryd.prog E (xV (Instr.fieldAt 33 a2K 3)) q9 fun b2r o7 =>
 opK Tryd.prog E (xV (Instr.loadAt 31 b2r)) o7 fun d0a s4 =>
 opK Tryd.prog E (xBuiltin .len #[31] 3 [false] [d0a]) s4 fun d0b s5 =>
 opK Tryd.prog E (xV (Instr.fieldAt 33 a2K 2)) s5 fun d0c r7 =>
 opK Tryd.prog E (xV (Instr.loadAt 28 d0c)) r7 fun d0d u2 =>
 opK Tryd.prog E (xBuiltin .len #[28] 3 [false] [d0d]) u2 fun d0e u5 =>
 opK Tryd.prog E (xV (Instr.build 114 #[(0, d0b), (1, d0e)])) u5 fun d0f y5 =>
 opK Tryd.prog E (xCall a1B [(Value.int .u8 67), a4O, c9Z, (Value.string ⟨#[]⟩), d0f]) y5 fun _t21_27 C1 =>
 xcut (fun _ W3 => b2D x3 a2K W3 R E) fun j1 =>
 opK Tryd.prog E (xV (Instr.fieldAt 33 a2K 2)) C1 fun a8l U3 =>
 opK Tryd.prog E (xV (Instr.loadAt 28 a8l)) U3 fun a5P W4 =>
 opK Tryd.prog E (xBuiltin .len #[28] 3 [false] [a5P]) W4 fun a8m Z5 =>
 xloop [25] [(Value.int .i64 0)] Z5 fun τ_81 a0Z next3 =>
 b7x x2 x3 a2K a5P a8m (τ_81 25) a0Z next3 j1 R E
noncomputable def c70 : Code := Tryd.f70.body.getD .skip
def h70 : Hint := (.seq .none (.seq .none (.cut [] (.seq .none (.block (.loop [25] (.seq .none (.seq (.cond .none .none) (.seq (.block (.seq .none .none)) .none)))))) (.seq .none (.block (.loop [36] (.seq .none (.seq (.cond .none .none) (.seq (.block (.seq .none .none)) .none)))))))))
theorem d0g (x0 x1 x2 x3 : Value) (w : World) (R : Value → World → Prop) (E : Pan) : F70 x0 x1 x2 x3 w R E = callX Tryd.prog [] c70 h70 [x0, x1, x2, x3] w R E := by kernel_rfl
theorem d0h {x0 x1 x2 x3 : Value} {w : World} {R : Value → World → Prop} {E : Pan} (h : F70 x0 x1 x2 x3 w R E) : Cv Tryd.prog 70 #[x0, x1, x2, x3] w R E := by
 refine f8 (args := [x0, x1, x2, x3]) (c := c70) (h := h70) (rs := []) Tryd.func70 (by kernel_rfl) (by kernel_rfl) (Nat.le_of_ble_eq_true (by kernel_rfl)) (by kernel_rfl) (by kernel_rfl) (by kernel_rfl) ?_
 rw [← d0g]
 exact h
def b2E (_x1 _x2 _x3 _x4 _x12 _x13 x14 : Value) (w : World) (next1 : List Value → World → Prop) (_R : Value → World → Prop) (E : Pan) : Prop :=
 ∀ _τ : Fr, (opK Tryd.prog E (xBin .add 3 (.tmp 14) (.const (Value.int .i64 1)) x14 (Value.int .i64 1)) w fun d1L w_6 =>
 next1 [d1L] w_6)
def b2F (_x1 _x2 _x3 x4 x7 _x12 _x13 _x14 : Value) (w : World) (j2 : List Value → World → Prop) (_R : Value → World → Prop) (E : Pan) : Prop :=
 ∀ _τ : Fr, (opK Tryd.prog E (xV (Instr.loadAt 116 x4)) w fun d0i W3 =>
 opK Tryd.prog E (xV (Instr.fieldAt 88 x7 4)) W3 fun d0j U3 =>
 opK Tryd.prog E (xV (Instr.loadAt 23 d0j)) U3 fun d0k W4 =>
 opK Tryd.prog E (xCall d0i [d0k]) W4 fun _t62_61 Z5 =>
 opK Tryd.prog E (xV (Instr.loadAt 116 x4)) Z5 fun d0l S9 =>
 opK Tryd.prog E (xV (Instr.fieldAt 88 x7 5)) S9 fun d0m W5 =>
 opK Tryd.prog E (xV (Instr.loadAt 23 d0m)) W5 fun d0n Z6 =>
 opK Tryd.prog E (xCall d0l [d0n]) Z6 fun _t66_69 U4 =>
 j2 [] U4)
def b7y (_x1 _x2 x3 _x4 _x7 _x12 _x13 _x14 x49 x50 x51 : Value) (w : World) (next5 : List Value → World → Prop) (j4 : List Value → World → Prop) (_R : Value → World → Prop) (E : Pan) : Prop :=
 opK Tryd.prog E (xBin .lss 3 (.tmp 51) (.tmp 50) x51 x50) w fun d0o W6 =>
 xcond d0o
 (opK Tryd.prog E (xV (Instr.indexAt 28 x49 x51)) W6 fun d0p a0Z =>
 opK Tryd.prog E (xV (Instr.loadAt 30 d0p)) a0Z fun d0q a2J =>
 opK Tryd.prog E (xV (Instr.alloc 30 true (.tuple #[]))) a2J fun b7z a3R =>
 opK Tryd.prog E (xU (Instr.storeAt 30 b7z d0q)) a3R fun _z_87 a1Y =>
 opK Tryd.prog E (xV (Instr.loadAt 103 x3)) a1Y fun d0r a4I =>
 opK Tryd.prog E (xV (Instr.loadAt 30 b7z)) a4I fun d0s a4J =>
 opK Tryd.prog E (xCall d0r [d0s]) a4J fun _t57_93 a3S =>
 opK Tryd.prog E (xBin .add 3 (.tmp 51) (.const (Value.int .i64 1)) x51 (Value.int .i64 1)) a3S fun d0t a3T =>
 next5 [d0t] a3T)
 (j4 [] W6)
def b2G (x1 x2 x3 x4 x7 x12 x13 x14 : Value) (w : World) (j2 : List Value → World → Prop) (R : Value → World → Prop) (E : Pan) : Prop :=
 ∀ _τ : Fr, (xcut (fun _ Z7 => b2F x1 x2 x3 x4 x7 x12 x13 x14 Z7 j2 R E) fun j4 =>
 opK Tryd.prog E (xV (Instr.fieldAt 88 x7 2)) w fun d0u a0p =>
 opK Tryd.prog E (xV (Instr.loadAt 28 d0u)) a0p fun b7A X2 =>
 opK Tryd.prog E (xBuiltin .len #[28] 3 [false] [b7A]) X2 fun d0v Z8 =>
 xloop [51] [(Value.int .i64 0)] Z8 fun τ_97 a4K next5 =>
 b7y x1 x2 x3 x4 x7 x12 x13 x14 b7A d0v (τ_97 51) a4K next5 j4 R E)
def b7B (_x1 x2 _x3 _x4 _x7 _x12 _x13 _x14 x38 x39 x40 : Value) (w : World) (next6 : List Value → World → Prop) (j3 : List Value → World → Prop) (_R : Value → World → Prop) (E : Pan) : Prop :=
 opK Tryd.prog E (xBin .lss 3 (.tmp 40) (.tmp 39) x40 x39) w fun c3a a4M =>
 xcond c3a
 (opK Tryd.prog E (xV (Instr.indexAt 31 x38 x40)) a4M fun c3b a8d =>
 opK Tryd.prog E (xV (Instr.loadAt 33 c3b)) a8d fun c3c a8e =>
 opK Tryd.prog E (xV (Instr.alloc 33 true (.tuple #[]))) a8e fun b7C a8f =>
 opK Tryd.prog E (xU (Instr.storeAt 33 b7C c3c)) a8f fun _z_115 a8g =>
 opK Tryd.prog E (xV (Instr.loadAt 108 x2)) a8g fun c3d a8h =>
 opK Tryd.prog E (xV (Instr.loadAt 33 b7C)) a8h fun c3e a8i =>
 opK Tryd.prog E (xCall c3d [c3e]) a8i fun _t46_121 b4k =>
 opK Tryd.prog E (xBin .add 3 (.tmp 40) (.const (Value.int .i64 1)) x40 (Value.int .i64 1)) b4k fun c3f b4l =>
 next6 [c3f] b4l)
 (j3 [] a4M)
def b7D (x1 x2 x3 x4 x12 x13 x14 : Value) (w : World) (next1 : List Value → World → Prop) (R : Value → World → Prop) (E : Pan) : Prop :=
 opK Tryd.prog E (xBin .lss 3 (.tmp 14) (.tmp 13) x14 x13) w fun d1M w_4 =>
 xcond d1M
 (xcut (fun _ w_8 => b2E x1 x2 x3 x4 x12 x13 x14 w_8 next1 R E) fun j2 =>
 opK Tryd.prog E (xV (Instr.indexAt 23 x12 x14)) w_4 fun d1N l0 =>
 opK Tryd.prog E (xV (Instr.loadAt 88 d1N)) l0 fun b2A q9 =>
 opK Tryd.prog E (xV (Instr.alloc 88 true (.tuple #[]))) q9 fun a1Q o7 =>
 opK Tryd.prog E (xU (Instr.storeAt 88 a1Q b2A)) o7 fun _z_15 s4 =>
 opK Tryd.prog E (xV (Instr.loadAt 115 x1)) s4 fun b0W s5 =>
 opK Tryd.prog E (xV (Instr.fieldAt 88 a1Q 0)) s5 fun b0X r7 =>
 opK Tryd.prog E (xV (Instr.loadAt 3 b0X)) r7 fun b0Y u2 =>
 opK Tryd.prog E (xV (Instr.fieldAt 88 a1Q 1)) u2 fun d0w u5 =>
 opK Tryd.prog E (xV (Instr.loadAt 9 d0w)) u5 fun b1c y5 =>
 opK Tryd.prog E (xV (Instr.fieldAt 88 a1Q 3)) y5 fun d0x C1 =>
 opK Tryd.prog E (xV (Instr.loadAt 31 d0x)) C1 fun b2s C5 =>
 opK Tryd.prog E (xBuiltin .len #[31] 3 [false] [b2s]) C5 fun b2t B8 =>
 opK Tryd.prog E (xV (Instr.fieldAt 88 a1Q 2)) B8 fun b2u C8 =>
 opK Tryd.prog E (xV (Instr.loadAt 28 b2u)) C8 fun b2v G1 =>
 opK Tryd.prog E (xBuiltin .len #[28] 3 [false] [b2v]) G1 fun b2w F6 =>
 opK Tryd.prog E (xV (Instr.fieldAt 88 a1Q 4)) F6 fun b1l G2 =>
 opK Tryd.prog E (xV (Instr.loadAt 23 b1l)) G2 fun b1q K5 =>
 opK Tryd.prog E (xBuiltin .len #[23] 3 [false] [b1q]) K5 fun b1r J1 =>
 opK Tryd.prog E (xV (Instr.fieldAt 88 a1Q 5)) J1 fun b1s N3 =>
 opK Tryd.prog E (xV (Instr.loadAt 23 b1s)) N3 fun b1t P9 =>
 opK Tryd.prog E (xBuiltin .len #[23] 3 [false] [b1t]) P9 fun b1u M6 =>
 opK Tryd.prog E (xV (Instr.build 114 #[(0, b2t), (1, b2w), (2, b1r), (3, b1u)])) M6 fun b1v R6 =>
 opK Tryd.prog E (xCall b0W [(Value.int .u8 83), b0Y, (Value.int .i64 0), b1c, b1v]) R6 fun _t36_53 U2 =>
 xcut (fun _ a1b => b2G x1 x2 x3 x4 a1Q x12 x13 x14 a1b j2 R E) fun j3 =>
 opK Tryd.prog E (xV (Instr.fieldAt 88 a1Q 3)) U2 fun c3g a1N =>
 opK Tryd.prog E (xV (Instr.loadAt 31 c3g)) a1N fun b3s a3B =>
 opK Tryd.prog E (xBuiltin .len #[31] 3 [false] [b3s]) a3B fun c3h a4L =>
 xloop [40] [(Value.int .i64 0)] a4L fun τ_125 b0o next6 =>
 b7B x1 x2 x3 x4 a1Q x12 x13 x14 b3s c3h (τ_125 40) b0o next6 j3 R E)
 (R (Value.tuple #[]) w_4)
def F71 (x0 x1 x2 x3 x4 : Value) (w : World) (R : Value → World → Prop) (E : Pan) : Prop :=
 opK Tryd.prog E (xBuiltin .len #[23] 3 [false] [x0]) w fun d1O w_2 =>
 xloop [14] [(Value.int .i64 0)] w_2 fun τ_127 b4m next1 =>
 b7D x1 x2 x3 x4 x0 d1O (τ_127 14) b4m next1 R E
noncomputable def c71 : Code := Tryd.f71.body.getD .skip
def h71 : Hint := (.seq .none (.block (.loop [14] (.seq .none (.seq (.cond .none .none) (.cut [] (.block (.seq .none (.seq .none (.cut [] (.seq .none (.block (.loop [40] (.seq .none (.seq (.cond .none .none) (.seq (.block (.seq .none .none)) .none)))))) (.cut [] (.seq .none (.block (.loop [51] (.seq .none (.seq (.cond .none .none) (.seq (.block (.seq .none .none)) .none)))))) (.seq .none .none)))))) .none))))))
theorem d0y (x0 x1 x2 x3 x4 : Value) (w : World) (R : Value → World → Prop) (E : Pan) : F71 x0 x1 x2 x3 x4 w R E = callX Tryd.prog [] c71 h71 [x0, x1, x2, x3, x4] w R E := by kernel_rfl
theorem d0z {x0 x1 x2 x3 x4 : Value} {w : World} {R : Value → World → Prop} {E : Pan} (h : F71 x0 x1 x2 x3 x4 w R E) : Cv Tryd.prog 71 #[x0, x1, x2, x3, x4] w R E := by
 refine f8 (args := [x0, x1, x2, x3, x4]) (c := c71) (h := h71) (rs := []) Tryd.func71 (by kernel_rfl) (by kernel_rfl) (Nat.le_of_ble_eq_true (by kernel_rfl)) (by kernel_rfl) (by kernel_rfl) (by kernel_rfl) ?_
 rw [← d0y]
 exact h
end Go.Proofs.YthldnpmfelniiaaDoor
