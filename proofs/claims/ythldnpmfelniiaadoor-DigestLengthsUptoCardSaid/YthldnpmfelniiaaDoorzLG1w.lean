/- The second reading of some of the program's functions, printed by gen2.py off the code; each is held against the code by the kernel. -/
import Derived.Test.YthldnpmfelniiaaDoorProg
import Derived.Test.YthldnpmfelniiaaDoorzLK0
import Derived.KernelRfl
namespace Go.Proofs.YthldnpmfelniiaaDoor
open Go.RowKit
set_option maxRecDepth 100000
def h5 : Hint := (.seq .none (.seq (.seq .none (.cond (.seq .none .none) .none)) (.seq .none .none)))
def b9g (x3 x6 x7 : Value) (w : World) (R : Value → World → Prop) (E : Pan) : Prop :=
 ∀ _τ : Fr, (opK Tryd.prog E (xBin .eql 34 (.tmp 62) (.const (Value.int .i64 0)) x6 (Value.int .i64 0)) w fun a8B D5 =>
 opK Tryd.prog E (gsem (asB a8B) true (xBuiltin .len #[40] 3 [false] [(gval (asB a8B) true x3)])) D5 fun d5t E4 =>
 opK Tryd.prog E (gsem (asB a8B) true (xBin .eql 3 (.tmp 66) (.tmp 67) d5t (gval (asB a8B) true x7))) E4 fun d5u E0 =>
 opK Tryd.prog E (xPick a8B d5u (Value.bool false)) E0 fun d5v G6 =>
 R d5v G6)
def c5g (_x3 _x6 x7 x9 x10 : Value) (w : World) (next3 : List Value → World → Prop) (j2 : List Value → World → Prop) (_R : Value → World → Prop) (E : Pan) : Prop :=
 opK Tryd.prog E (xBuiltin .len #[68] 3 [false] [x9]) w fun d5w H8 =>
 opK Tryd.prog E (xBin .lss 3 (.tmp 48) (.tmp 50) x10 d5w) H8 fun d5x J4 =>
 xcond d5x
 (opK Tryd.prog E (xV (Instr.indexAt 68 x9 x10)) J4 fun d5y M5 =>
 opK Tryd.prog E (xV (Instr.fieldAt 71 d5y 0)) M5 fun d5z J5 =>
 opK Tryd.prog E (xV (Instr.loadAt 9 d5z)) J5 fun d5A Q0 =>
 opK Tryd.prog E (xBuiltin .len #[9] 3 [false] [d5A]) Q0 fun d5B R7 =>
 opK Tryd.prog E (xBin .add 3 (.tmp 54) (.tmp 60) x7 d5B) R7 fun d5C T3 =>
 opK Tryd.prog E (xBin .add 3 (.tmp 52) (.const (Value.int .i64 1)) x10 (Value.int .i64 1)) T3 fun d5D S7 =>
 next3 [d5C, d5D] S7)
 (j2 [x7] J4)
def b9h (x1 x3 x6 x7 : Value) (w : World) (R : Value → World → Prop) (E : Pan) : Prop :=
 ∀ _τ : Fr, (opK Tryd.prog E (xV (Instr.loadAt 25 x1)) w fun d5E C5 =>
 opK Tryd.prog E (xCall (Value.func (.func 37) #[] #[]) [d5E]) C5 fun d5F B6 =>
 xcut (fun a6c G9 => b9g x3 x6 (nth a6c 0) G9 R E) fun j2 =>
 xloop [7, 10] [x7, (Value.int .i64 0)] B6 fun τ_59 W4 next3 =>
 c5g x3 x6 (τ_59 7) d5F (τ_59 10) W4 next3 j2 R E)
def c5h (x1 _x3 _x6 x7 x8 : Value) (w : World) (next4 : List Value → World → Prop) (j1 : List Value → World → Prop) (_R : Value → World → Prop) (E : Pan) : Prop :=
 opK Tryd.prog E (xV (Instr.fieldAt 25 x1 0)) w fun d5G S8 =>
 opK Tryd.prog E (xV (Instr.loadAt 22 d5G)) S8 fun d5H W5 =>
 opK Tryd.prog E (xBuiltin .len #[22] 3 [false] [d5H]) W5 fun d5I a0b =>
 opK Tryd.prog E (xBin .lss 3 (.tmp 30) (.tmp 33) x8 d5I) a0b fun d5J T4 =>
 xcond d5J
 (opK Tryd.prog E (xV (Instr.fieldAt 25 x1 0)) T4 fun a8h Y1 =>
 opK Tryd.prog E (xV (Instr.loadAt 22 a8h)) Y1 fun d5K a0m =>
 opK Tryd.prog E (xV (Instr.indexAt 22 d5K x8)) a0m fun d5L Y2 =>
 opK Tryd.prog E (xV (Instr.fieldAt 67 d5L 0)) Y2 fun d5M a0d =>
 opK Tryd.prog E (xV (Instr.loadAt 9 d5M)) a0d fun d5N W6 =>
 opK Tryd.prog E (xBuiltin .len #[9] 3 [false] [d5N]) W6 fun d5O a0M =>
 opK Tryd.prog E (xBin .add 3 (.tmp 37) (.tmp 44) x7 d5O) a0M fun d5P a1X =>
 opK Tryd.prog E (xBin .add 3 (.tmp 35) (.const (Value.int .i64 1)) x8 (Value.int .i64 1)) a1X fun d5Q a2G =>
 next4 [d5P, d5Q] a2G)
 (j1 [x7] T4)
def F8 (x0 : Value) (w : World) (R : Value → World → Prop) (E : Pan) : Prop :=
 opK Tryd.prog E (xV (Instr.box 25 x0)) w fun o7 w_2 =>
 opK Tryd.prog E (xCall (Value.func (.func 21) #[] #[]) []) w_2 fun b0H w_4 =>
 opK Tryd.prog E (xV (Op.unary .not b0H)) w_4 fun a4l w_6 =>
 xcond a4l
 (R (Value.bool false) w_6)
 (opK Tryd.prog E (xV (Instr.loadAt 25 o7)) w_6 fun b0X w_8 =>
 opK Tryd.prog E (xCall (Value.func (.func 31) #[] #[]) [b0X]) w_8 fun b3h k8 =>
 opK Tryd.prog E (xV (Instr.extract b3h 0)) k8 fun a0F o9 =>
 opK Tryd.prog E (xV (Instr.extract b3h 1)) o9 fun c1A o0 =>
 opK Tryd.prog E (xV (Instr.loadAt 25 o7)) o0 fun a0E r7 =>
 opK Tryd.prog E (xCall (Value.func (.func 25) #[] #[]) [a0E]) r7 fun c1B s7 =>
 opK Tryd.prog E (xV (Instr.extract c1B 0)) s7 fun b4v r6 =>
 opK Tryd.prog E (xV (Instr.extract c1B 1)) r6 fun a4R u2 =>
 opK Tryd.prog E (xBin .neq 34 (.tmp 23) (.const (Value.int .i64 0)) c1A (Value.int .i64 0)) u2 fun d5R s9 =>
 xcond d5R
 (opK Tryd.prog E (xBin .eql 34 (.tmp 25) (.tmp 26) c1A a4R) s9 fun d5S y7 =>
 R d5S y7)
 (opK Tryd.prog E (xBin .mul 3 (.const (Value.int .i64 15)) (.tmp 28) (Value.int .i64 15) b4v) s9 fun d5T B5 =>
 xcut (fun e3x Z9 => b9h o7 a0F a4R (nth e3x 0) Z9 R E) fun j1 =>
 xloop [7, 8] [d5T, (Value.int .i64 0)] B5 fun τ_87 a1y next4 =>
 c5h o7 a0F a4R (τ_87 7) (τ_87 8) a1y next4 j1 R E))
noncomputable def c8 : Code := Tryd.f8.body.getD .skip
def h8 : Hint := (.seq .none (.seq (.seq .none (.cond (.seq .none .none) .none)) (.seq .none (.seq .none (.seq (.seq .none (.cond (.seq .none .none) .none)) (.seq .none (.cut [7] (.seq .none (.block (.loop [7, 8] (.seq (.seq .none (.cond .none .none)) (.seq (.block .none) .none))))) (.seq .none (.cut [7] (.seq .none (.block (.loop [7, 10] (.seq (.seq .none (.cond .none .none)) (.seq (.block .none) .none))))) (.seq .none .none))))))))))
theorem d9a (x0 : Value) (w : World) (R : Value → World → Prop) (E : Pan) : F8 x0 w R E = callX Tryd.prog [.tmp 2] c8 h8 [x0] w R E := by kernel_rfl
theorem d9b {x0 : Value} {w : World} {R : Value → World → Prop} {E : Pan} (h : F8 x0 w R E) : Cv Tryd.prog 8 #[x0] w R E := by
 refine f7 (args := [x0]) (c := c8) (h := h8) (rs := [.tmp 2]) Tryd.func8 (by kernel_rfl) (by kernel_rfl) (Nat.le_of_ble_eq_true (by kernel_rfl)) (by kernel_rfl) (by kernel_rfl) (by kernel_rfl) ?_
 rw [← d9a]
 exact h
def F21 (w : World) (R : Value → World → Prop) (E : Pan) : Prop :=
 opK Tryd.prog E (xV (Instr.build 67 #[(0, (Value.string ⟨#[120]⟩))])) w fun a4S w_2 =>
 opK Tryd.prog E (xV (Instr.buildSlice 22 1 #[(0, a4S)])) w_2 fun a7R w_4 =>
 opK Tryd.prog E (xV (Instr.build 25 #[(0, a7R)])) w_4 fun a3T w_6 =>
 opK Tryd.prog E (xCall (Value.func (.func 31) #[] #[]) [a3T]) w_6 fun a9N w_8 =>
 opK Tryd.prog E (xV (Instr.extract a9N 0)) w_8 fun a9P k8 =>
 opK Tryd.prog E (xV (Instr.extract a9N 1)) k8 fun b3g o9 =>
 opK Tryd.prog E (xBin .eql 34 (.tmp 10) (.const (Value.int .i64 0)) b3g (Value.int .i64 0)) o9 fun a1I o0 =>
 opK Tryd.prog E (gsem (asB a1I) true (xBuiltin .len #[40] 3 [false] [(gval (asB a1I) true a9P)])) o0 fun d5U r7 =>
 opK Tryd.prog E (gsem (asB a1I) true (xBin .eql 3 (.tmp 14) (.const (Value.int .i64 16)) d5U (Value.int .i64 16))) r7 fun d5V s7 =>
 opK Tryd.prog E (xPick a1I d5V (Value.bool false)) s7 fun a8C r6 =>
 opK Tryd.prog E (gsem (asB a8C) true (xV (Instr.indexAt 40 (gval (asB a8C) true a9P) (Value.int .i64 0)))) r6 fun a2K u2 =>
 opK Tryd.prog E (gsem (asB a8C) true (xV (Instr.loadAt 5 a2K))) u2 fun a2L s9 =>
 opK Tryd.prog E (gsem (asB a8C) true (xBin .eql 5 (.tmp 20) (.const (Value.int .u8 68)) a2L (Value.int .u8 68))) s9 fun d5W y7 =>
 opK Tryd.prog E (xPick a8C d5W (Value.bool false)) y7 fun a8D B5 =>
 opK Tryd.prog E (gsem (asB a8D) true (xV (Instr.buildSlice 40 1 #[(0, (Value.int .u8 97))]))) B5 fun b5R C5 =>
 opK Tryd.prog E (gsem (asB a8D) true (xV (convert 40 40 b5R))) C5 fun b5S B6 =>
 opK Tryd.prog E (gsem (asB a8D) true (xCall (Value.func (.func 22) #[] #[]) [b5S])) B6 fun b5T D5 =>
 opK Tryd.prog E (gsem (asB a8D) true (xBin .eql 41 (.tmp 26) (.const (Value.int .u64 12638187200555641996)) b5T (Value.int .u64 12638187200555641996))) D5 fun b5U E4 =>
 opK Tryd.prog E (xPick a8D b5U (Value.bool false)) E4 fun b5V E0 =>
 R b5V E0
noncomputable def c21 : Code := Tryd.f21.body.getD .skip
def h21 : Hint := (.seq .none (.seq .none (.seq .none .none)))
theorem d5X (w : World) (R : Value → World → Prop) (E : Pan) : F21  w R E = callX Tryd.prog [.tmp 0] c21 h21 [] w R E := by kernel_rfl
theorem d5Y {w : World} {R : Value → World → Prop} {E : Pan} (h : F21  w R E) : Cv Tryd.prog 21 #[] w R E := by
 refine f7 (args := []) (c := c21) (h := h21) (rs := [.tmp 0]) Tryd.func21 (by kernel_rfl) (by kernel_rfl) (Nat.zero_le _) (by kernel_rfl) (by kernel_rfl) (by kernel_rfl) ?_
 rw [← d5X]
 exact h
def b5W (x3 : Value) (w : World) (R : Value → World → Prop) (_E : Pan) : Prop :=
 ∀ _τ : Fr, (R x3 w)
def c1C (x3 x6 x7 x8 : Value) (w : World) (next2 : List Value → World → Prop) (j1 : List Value → World → Prop) (_R : Value → World → Prop) (E : Pan) : Prop :=
 opK Tryd.prog E (xBin .lss 3 (.tmp 8) (.tmp 7) x8 x7) w fun c2r w_6 =>
 xcond c2r
 (opK Tryd.prog E (xV (Instr.indexAt 40 x6 x8)) w_6 fun d9c w_8 =>
 opK Tryd.prog E (xV (Instr.loadAt 5 d9c)) w_8 fun d9d k8 =>
 opK Tryd.prog E (xV (convert 5 41 d9d)) k8 fun d5Z o9 =>
 opK Tryd.prog E (xBin .xor 41 (.tmp 12) (.tmp 14) x3 d5Z) o9 fun d6a o0 =>
 opK Tryd.prog E (xBin .mul 41 (.tmp 15) (.const (Value.int .u64 1099511628211)) d6a (Value.int .u64 1099511628211)) o0 fun a2H r7 =>
 opK Tryd.prog E (xBin .add 3 (.tmp 8) (.const (Value.int .i64 1)) x8 (Value.int .i64 1)) r7 fun a2I s7 =>
 next2 [a2H, a2I] s7)
 (j1 [x3] w_6)
def F22 (x0 : Value) (w : World) (R : Value → World → Prop) (E : Pan) : Prop :=
 xcut (fun l_1 w_2 => b5W (nth l_1 0) w_2 R E) fun j1 =>
 opK Tryd.prog E (xBuiltin .len #[40] 3 [false] [x0]) w fun a6P w_4 =>
 xloop [3, 8] [(Value.int .u64 14695981039346656037), (Value.int .i64 0)] w_4 fun τ_19 r6 next2 =>
 c1C (τ_19 3) x0 a6P (τ_19 8) r6 next2 j1 R E
noncomputable def c22 : Code := Tryd.f22.body.getD .skip
def h22 : Hint := (.seq .none (.seq .none (.cut [3] (.seq .none (.block (.loop [3, 8] (.seq .none (.seq (.cond .none .none) (.seq (.block (.seq .none .none)) .none)))))) (.seq .none .none))))
theorem d6b (x0 : Value) (w : World) (R : Value → World → Prop) (E : Pan) : F22 x0 w R E = callX Tryd.prog [.tmp 2] c22 h22 [x0] w R E := by kernel_rfl
theorem d6c {x0 : Value} {w : World} {R : Value → World → Prop} {E : Pan} (h : F22 x0 w R E) : Cv Tryd.prog 22 #[x0] w R E := by
 refine f7 (args := [x0]) (c := c22) (h := h22) (rs := [.tmp 2]) Tryd.func22 (by kernel_rfl) (by kernel_rfl) (Nat.le_of_ble_eq_true (by kernel_rfl)) (by kernel_rfl) (by kernel_rfl) (by kernel_rfl) ?_
 rw [← d6b]
 exact h
def b5X (x1 x5 x9 : Value) (w : World) (R : Value → World → Prop) (E : Pan) : Prop :=
 ∀ _τ : Fr, (opK Tryd.prog E (xV (Instr.loadAt 116 x9)) w fun d6d E4 =>
 opK Tryd.prog E (xV (Instr.fieldAt 25 x1 1)) E4 fun d6e E0 =>
 opK Tryd.prog E (xV (Instr.loadAt 23 d6e)) E0 fun d6f G6 =>
 opK Tryd.prog E (xCall d6d [d6f]) G6 fun _t39_41 G9 =>
 opK Tryd.prog E (xV (Instr.loadAt 40 x5)) G9 fun d6g H8 =>
 R (Value.tuple #[d6g, (Value.int .i64 0)]) H8)
def c1D (_x1 _x5 x6 _x9 x22 x23 x24 : Value) (w : World) (next2 : List Value → World → Prop) (j1 : List Value → World → Prop) (_R : Value → World → Prop) (E : Pan) : Prop :=
 opK Tryd.prog E (xBin .lss 3 (.tmp 24) (.tmp 23) x24 x23) w fun d6h R7 =>
 xcond d6h
 (opK Tryd.prog E (xV (Instr.indexAt 22 x22 x24)) R7 fun d6i T3 =>
 opK Tryd.prog E (xV (Instr.loadAt 67 d6i)) T3 fun d6j S7 =>
 opK Tryd.prog E (xV (Instr.alloc 67 true (.tuple #[]))) S7 fun b5Y W4 =>
 opK Tryd.prog E (xU (Instr.storeAt 67 b5Y d6j)) W4 fun _z_61 Z9 =>
 opK Tryd.prog E (xV (Instr.loadAt 115 x6)) Z9 fun d6k S8 =>
 opK Tryd.prog E (xV (Instr.fieldAt 67 b5Y 1)) S8 fun d6l W5 =>
 opK Tryd.prog E (xV (Instr.loadAt 3 d6l)) W5 fun d6m a0b =>
 opK Tryd.prog E (xV (Instr.fieldAt 67 b5Y 0)) a0b fun d6n T4 =>
 opK Tryd.prog E (xV (Instr.loadAt 9 d6n)) T4 fun d6o Y1 =>
 opK Tryd.prog E (xV (Instr.build 114 #[])) Y1 fun d6p a0m =>
 opK Tryd.prog E (xCall d6k [(Value.int .u8 68), (Value.int .i64 0), d6m, d6o, d6p]) a0m fun _t34_75 Y2 =>
 opK Tryd.prog E (xBin .add 3 (.tmp 24) (.const (Value.int .i64 1)) x24 (Value.int .i64 1)) Y2 fun d6q a0d =>
 next2 [d6q] a0d)
 (j1 [] R7)
def F31 (x0 : Value) (w : World) (R : Value → World → Prop) (E : Pan) : Prop :=
 opK Tryd.prog E (xV (Instr.box 25 x0)) w fun o7 w_2 =>
 opK Tryd.prog E (xV (Instr.loadAt 25 o7)) w_2 fun d9e w_4 =>
 opK Tryd.prog E (xCall (Value.func (.func 27) #[] #[]) [d9e]) w_4 fun c5i w_6 =>
 opK Tryd.prog E (xBin .neq 34 (.tmp 14) (.const (Value.int .i64 0)) c5i (Value.int .i64 0)) w_6 fun d9f w_8 =>
 xcond d9f
 (R (Value.tuple #[(Value.slice none 0 0), c5i]) w_8)
 (opK Tryd.prog E (xV (Instr.alloc 40 true (.tuple #[]))) w_8 fun c4x k8 =>
 opK Tryd.prog E (xV (Instr.makeFunc (.func 68) #[] #[c4x])) k8 fun a8A o9 =>
 opK Tryd.prog E (xV (Instr.alloc 115 true (.tuple #[]))) o9 fun b1w o0 =>
 opK Tryd.prog E (xU (Instr.storeAt 115 b1w a8A)) o0 fun _z_15 r7 =>
 opK Tryd.prog E (xV (Instr.alloc 103 true (.tuple #[]))) r7 fun b3p s7 =>
 opK Tryd.prog E (xV (Instr.makeFunc (.func 69) #[] #[b1w, b3p])) s7 fun a2J r6 =>
 opK Tryd.prog E (xU (Instr.storeAt 103 b3p a2J)) r6 fun _z_21 u2 =>
 opK Tryd.prog E (xV (Instr.alloc 108 true (.tuple #[]))) u2 fun b9i s9 =>
 opK Tryd.prog E (xV (Instr.makeFunc (.func 70) #[] #[b1w, b3p, b9i])) s9 fun d6r y7 =>
 opK Tryd.prog E (xU (Instr.storeAt 108 b9i d6r)) y7 fun _z_27 B5 =>
 opK Tryd.prog E (xV (Instr.alloc 116 true (.tuple #[]))) B5 fun b3q C5 =>
 opK Tryd.prog E (xV (Instr.makeFunc (.func 71) #[] #[b1w, b9i, b3p, b3q])) C5 fun a8j B6 =>
 opK Tryd.prog E (xU (Instr.storeAt 116 b3q a8j)) B6 fun _z_33 D5 =>
 xcut (fun _ J4 => b5X o7 c4x b3q J4 R E) fun j1 =>
 opK Tryd.prog E (xV (Instr.fieldAt 25 o7 0)) D5 fun d6s M5 =>
 opK Tryd.prog E (xV (Instr.loadAt 22 d6s)) M5 fun c1E J5 =>
 opK Tryd.prog E (xBuiltin .len #[22] 3 [false] [c1E]) J5 fun d6t Q0 =>
 xloop [24] [(Value.int .i64 0)] Q0 fun τ_79 W6 next2 =>
 c1D o7 c4x b1w b3q c1E d6t (τ_79 24) W6 next2 j1 R E)
noncomputable def c31 : Code := Tryd.f31.body.getD .skip
def h31 : Hint := (.seq .none (.seq (.seq .none (.seq .none (.cond (.seq .none .none) .none))) (.seq .none (.seq .none (.seq .none (.seq .none (.seq .none (.seq .none (.seq .none (.seq .none (.cut [] (.seq .none (.block (.loop [24] (.seq .none (.seq (.cond .none .none) (.seq (.block (.seq .none .none)) .none)))))) (.seq .none (.seq .none .none)))))))))))))
theorem d6u (x0 : Value) (w : World) (R : Value → World → Prop) (E : Pan) : F31 x0 w R E = callX Tryd.prog [.tmp 2, .tmp 3] c31 h31 [x0] w R E := by kernel_rfl
theorem d6v {x0 : Value} {w : World} {R : Value → World → Prop} {E : Pan} (h : F31 x0 w R E) : Cv Tryd.prog 31 #[x0] w R E := by
 refine f7 (args := [x0]) (c := c31) (h := h31) (rs := [.tmp 2, .tmp 3]) Tryd.func31 (by kernel_rfl) (by kernel_rfl) (Nat.le_of_ble_eq_true (by kernel_rfl)) (by kernel_rfl) (by kernel_rfl) (by kernel_rfl) ?_
 rw [← d6u]
 exact h
def c1F (x5 x39 x40 : Value) (w : World) (next2 : List Value → World → Prop) (R : Value → World → Prop) (E : Pan) : Prop :=
 opK Tryd.prog E (xBin .lss 3 (.tmp 40) (.const (Value.int .i64 4)) x40 (Value.int .i64 4)) w fun d6w y7 =>
 xcond d6w
 (opK Tryd.prog E (xV (Instr.index 114 x39 x40)) y7 fun d6x B5 =>
 opK Tryd.prog E (xV (Instr.loadAt 40 x5)) B5 fun d6y C5 =>
 opK Tryd.prog E (xV (convert 3 5 d6x)) C5 fun d6z B6 =>
 opK Tryd.prog E (xV (Instr.buildSlice 40 1 #[(0, d6z)])) B6 fun d6A D5 =>
 opK Tryd.prog E (xBuiltin .append #[40, 40] 40 [false, false] [d6y, d6A]) D5 fun d6B E4 =>
 opK Tryd.prog E (xU (Instr.storeAt 40 x5 d6B)) E4 fun _z_37 E0 =>
 opK Tryd.prog E (xBin .add 3 (.tmp 40) (.const (Value.int .i64 1)) x40 (Value.int .i64 1)) E0 fun d6C G6 =>
 next2 [d6C] G6)
 (R (Value.tuple #[]) y7)
def b5Z (x3 x5 x10 : Value) (w : World) (R : Value → World → Prop) (E : Pan) : Prop :=
 ∀ _τ : Fr, (opK Tryd.prog E (xV (Instr.loadAt 40 x5)) w fun d6D o0 =>
 opK Tryd.prog E (xBuiltin .append #[40, 9] 40 [false, false] [d6D, x3]) o0 fun d6E r7 =>
 opK Tryd.prog E (xV (Instr.buildSlice 40 1 #[(0, (Value.int .u8 0))])) r7 fun d6F s7 =>
 opK Tryd.prog E (xBuiltin .append #[40, 40] 40 [false, false] [d6E, d6F]) s7 fun d6G r6 =>
 opK Tryd.prog E (xU (Instr.storeAt 40 x5 d6G)) r6 fun _z_21 u2 =>
 opK Tryd.prog E (xV (Instr.loadAt 114 x10)) u2 fun d6H s9 =>
 xloop [40] [(Value.int .i64 0)] s9 fun τ_41 G9 next2 =>
 c1F x5 d6H (τ_41 40) G9 next2 R E)
def c1G (x2 _x3 x5 _x10 x20 : Value) (w : World) (next3 : List Value → World → Prop) (j1 : List Value → World → Prop) (_R : Value → World → Prop) (E : Pan) : Prop :=
 opK Tryd.prog E (xBin .lss 3 (.tmp 20) (.const (Value.int .i64 8)) x20 (Value.int .i64 8)) w fun d6I J4 =>
 xcond d6I
 (dX J4 fun b1O =>
 qP Tryd.prog (xV (convert 2 41 x2)) fun d6J =>
 qP Tryd.prog (xBin .mul 3 (.const (Value.int .i64 8)) (.tmp 26) (Value.int .i64 8) x20) fun b4R =>
 qP Tryd.prog (xBin .sub 3 (.const (Value.int .i64 56)) (.tmp 27) (Value.int .i64 56) b4R) fun d6K =>
 qP Tryd.prog (xBin .shr 41 (.tmp 25) (.tmp 28) d6J d6K) fun b4a =>
 qP Tryd.prog (xV (convert 41 5 b4a)) fun d6L =>
 qL Tryd.prog b1O (blk x5) (xV (Instr.loadAt 40 x5)) fun d6M =>
 opK Tryd.prog E (xV (Instr.buildSlice 40 1 #[(0, d6L)])) b1O fun d6N b5g =>
 keepX [(blk x5)] b1O b5g (opK Tryd.prog E (xBuiltin .append #[40, 40] 40 [false, false] [d6M, d6N]) b5g fun d6O b5u =>
 keepX [] b5g b5u (opK Tryd.prog E (xU (Instr.storeAt 40 x5 d6O)) b5u fun _z_58 c4y =>
 keepX [] b5u c4y (opK Tryd.prog E (xBin .add 3 (.tmp 20) (.const (Value.int .i64 1)) x20 (Value.int .i64 1)) c4y fun d6P d3m =>
 next3 [d6P] d3m))))
 (j1 [] J4)
def F68 (x0 x1 x2 x3 x4 x5 : Value) (w : World) (R : Value → World → Prop) (E : Pan) : Prop :=
 opK Tryd.prog E (xV (Instr.box 114 x4)) w fun b3d w_2 =>
 opK Tryd.prog E (xV (Instr.loadAt 40 x5)) w_2 fun d9g w_4 =>
 opK Tryd.prog E (xV (convert 3 5 x1)) w_4 fun d9h w_6 =>
 opK Tryd.prog E (xV (Instr.buildSlice 40 2 #[(0, x0), (1, d9h)])) w_6 fun d9i w_8 =>
 opK Tryd.prog E (xBuiltin .append #[40, 40] 40 [false, false] [d9g, d9i]) w_8 fun d9j k8 =>
 opK Tryd.prog E (xU (Instr.storeAt 40 x5 d9j)) k8 fun _z_11 o9 =>
 xcut (fun _ H8 => b5Z x3 x5 b3d H8 R E) fun j1 =>
 xloop [20] [(Value.int .i64 0)] o9 fun τ_62 d5a next3 =>
 c1G x2 x3 x5 b3d (τ_62 20) d5a next3 j1 R E
noncomputable def c68 : Code := Tryd.f68.body.getD .skip
def h68 : Hint := (.seq .none (.seq .none (.cut [] (.seq .none (.block (.loop [20] (.seq .none (.seq (.cond .none .none) (.seq (.block (.seq .none (.reg [(0, 8388608, 32), (0, 16777216, 4), (2, 33554432, 16777216), (0, 67108864, 2048), (8, 134217728, 67108864), (16, 268435456, 134217728), (36, 536870912, 301989888), (64, 1073741824, 536870912), (128, 2147483648, 1073741824), (257, 4294967296, 2155872256), (1023, 0, 4294967328)] [0, 1, 1, 1, 1, 1, 1, 1, 1, 0, 0] (.early 1 (.early 2 (.early 3 (.early 4 (.early 5 (.early 6 (.early 7 (.load 0 (.step 8 (.step 9 (.step 10 .done)))))))))))))) .none)))))) (.seq .none (.seq .none (.block (.loop [40] (.seq .none (.seq (.cond .none .none) (.seq (.block (.seq .none .none)) .none))))))))))
theorem d6Q (x0 x1 x2 x3 x4 x5 : Value) (w : World) (R : Value → World → Prop) (E : Pan) : F68 x0 x1 x2 x3 x4 x5 w R E = callX Tryd.prog [] c68 h68 [x0, x1, x2, x3, x4, x5] w R E := by kernel_rfl
theorem d6R {x0 x1 x2 x3 x4 x5 : Value} {w : World} {R : Value → World → Prop} {E : Pan} (h : F68 x0 x1 x2 x3 x4 x5 w R E) : Cv Tryd.prog 68 #[x0, x1, x2, x3, x4, x5] w R E := by
 refine f7 (args := [x0, x1, x2, x3, x4, x5]) (c := c68) (h := h68) (rs := []) Tryd.func68 (by kernel_rfl) (by kernel_rfl) (Nat.le_of_ble_eq_true (by kernel_rfl)) (by kernel_rfl) (by kernel_rfl) (by kernel_rfl) ?_
 rw [← d6Q]
 exact h
def c1H (x2 x19 x20 x21 : Value) (w : World) (next1 : List Value → World → Prop) (R : Value → World → Prop) (E : Pan) : Prop :=
 opK Tryd.prog E (xBin .lss 3 (.tmp 21) (.tmp 20) x21 x20) w fun b4s D5 =>
 xcond b4s
 (opK Tryd.prog E (xV (Instr.indexAt 28 x19 x21)) D5 fun d6S E4 =>
 opK Tryd.prog E (xV (Instr.loadAt 30 d6S)) E4 fun d6T E0 =>
 opK Tryd.prog E (xV (Instr.alloc 30 true (.tuple #[]))) E0 fun c5j G6 =>
 opK Tryd.prog E (xU (Instr.storeAt 30 c5j d6T)) G6 fun _z_41 G9 =>
 opK Tryd.prog E (xV (Instr.loadAt 103 x2)) G9 fun b3X H8 =>
 opK Tryd.prog E (xV (Instr.loadAt 30 c5j)) H8 fun b3Y J4 =>
 opK Tryd.prog E (xCall b3X [b3Y]) J4 fun _t27_47 M5 =>
 opK Tryd.prog E (xBin .add 3 (.tmp 21) (.const (Value.int .i64 1)) x21 (Value.int .i64 1)) M5 fun b3Z J5 =>
 next1 [b3Z] J5)
 (R (Value.tuple #[]) D5)
def F69 (x0 x1 x2 : Value) (w : World) (R : Value → World → Prop) (E : Pan) : Prop :=
 opK Tryd.prog E (xV (Instr.box 30 x0)) w fun a2W w_2 =>
 opK Tryd.prog E (xV (Instr.loadAt 115 x1)) w_2 fun b4x w_4 =>
 opK Tryd.prog E (xV (Instr.fieldAt 30 a2W 0)) w_4 fun b4y w_6 =>
 opK Tryd.prog E (xV (Instr.loadAt 3 b4y)) w_6 fun a1U w_8 =>
 opK Tryd.prog E (xV (Instr.fieldAt 30 a2W 1)) w_8 fun a5X k8 =>
 opK Tryd.prog E (xV (Instr.loadAt 2 a5X)) k8 fun a7S o9 =>
 opK Tryd.prog E (xV (Instr.fieldAt 30 a2W 2)) o9 fun a1I o0 =>
 opK Tryd.prog E (xV (Instr.loadAt 9 a1I)) o0 fun b4M r7 =>
 opK Tryd.prog E (xV (Instr.fieldAt 30 a2W 3)) r7 fun b4N s7 =>
 opK Tryd.prog E (xV (Instr.loadAt 28 b4N)) s7 fun b4O r6 =>
 opK Tryd.prog E (xBuiltin .len #[28] 3 [false] [b4O]) r6 fun a8i u2 =>
 opK Tryd.prog E (xV (Instr.build 114 #[(0, (Value.int .i64 0)), (1, a8i)])) u2 fun b4P s9 =>
 opK Tryd.prog E (xCall b4x [(Value.int .u8 69), a1U, a7S, b4M, b4P]) s9 fun _t17_25 y7 =>
 opK Tryd.prog E (xV (Instr.fieldAt 30 a2W 3)) y7 fun b4Q B5 =>
 opK Tryd.prog E (xV (Instr.loadAt 28 b4Q)) B5 fun b1b C5 =>
 opK Tryd.prog E (xBuiltin .len #[28] 3 [false] [b1b]) C5 fun a8j B6 =>
 xloop [21] [(Value.int .i64 0)] B6 fun τ_51 Q0 next1 =>
 c1H x2 b1b a8j (τ_51 21) Q0 next1 R E
noncomputable def c69 : Code := Tryd.f69.body.getD .skip
def h69 : Hint := (.seq .none (.seq .none (.seq .none (.block (.loop [21] (.seq .none (.seq (.cond .none .none) (.seq (.block (.seq .none .none)) .none))))))))
theorem d6U (x0 x1 x2 : Value) (w : World) (R : Value → World → Prop) (E : Pan) : F69 x0 x1 x2 w R E = callX Tryd.prog [] c69 h69 [x0, x1, x2] w R E := by kernel_rfl
theorem d6V {x0 x1 x2 : Value} {w : World} {R : Value → World → Prop} {E : Pan} (h : F69 x0 x1 x2 w R E) : Cv Tryd.prog 69 #[x0, x1, x2] w R E := by
 refine f7 (args := [x0, x1, x2]) (c := c69) (h := h69) (rs := []) Tryd.func69 (by kernel_rfl) (by kernel_rfl) (Nat.le_of_ble_eq_true (by kernel_rfl)) (by kernel_rfl) (by kernel_rfl) (by kernel_rfl) ?_
 rw [← d6U]
 exact h
def c1I (x3 x34 x35 x36 : Value) (w : World) (next2 : List Value → World → Prop) (R : Value → World → Prop) (E : Pan) : Prop :=
 opK Tryd.prog E (xBin .lss 3 (.tmp 36) (.tmp 35) x36 x35) w fun d6W E4 =>
 xcond d6W
 (opK Tryd.prog E (xV (Instr.indexAt 31 x34 x36)) E4 fun d6X E0 =>
 opK Tryd.prog E (xV (Instr.loadAt 33 d6X)) E0 fun d6Y G6 =>
 opK Tryd.prog E (xV (Instr.alloc 33 true (.tuple #[]))) G6 fun c5k G9 =>
 opK Tryd.prog E (xU (Instr.storeAt 33 c5k d6Y)) G9 fun _z_43 H8 =>
 opK Tryd.prog E (xV (Instr.loadAt 108 x3)) H8 fun d6Z J4 =>
 opK Tryd.prog E (xV (Instr.loadAt 33 c5k)) J4 fun d7a M5 =>
 opK Tryd.prog E (xCall d6Z [d7a]) M5 fun _t42_49 J5 =>
 opK Tryd.prog E (xBin .add 3 (.tmp 36) (.const (Value.int .i64 1)) x36 (Value.int .i64 1)) J5 fun d7b Q0 =>
 next2 [d7b] Q0)
 (R (Value.tuple #[]) E4)
def b6a (x3 x4 : Value) (w : World) (R : Value → World → Prop) (E : Pan) : Prop :=
 ∀ _τ : Fr, (opK Tryd.prog E (xV (Instr.fieldAt 33 x4 3)) w fun d7c C5 =>
 opK Tryd.prog E (xV (Instr.loadAt 31 d7c)) C5 fun c1J B6 =>
 opK Tryd.prog E (xBuiltin .len #[31] 3 [false] [c1J]) B6 fun d7d D5 =>
 xloop [36] [(Value.int .i64 0)] D5 fun τ_53 R7 next2 =>
 c1I x3 c1J d7d (τ_53 36) R7 next2 R E)
def c1K (x2 _x3 _x4 x23 x24 x25 : Value) (w : World) (next3 : List Value → World → Prop) (j1 : List Value → World → Prop) (_R : Value → World → Prop) (E : Pan) : Prop :=
 opK Tryd.prog E (xBin .lss 3 (.tmp 25) (.tmp 24) x25 x24) w fun d7e S8 =>
 xcond d7e
 (opK Tryd.prog E (xV (Instr.indexAt 28 x23 x25)) S8 fun d7f W5 =>
 opK Tryd.prog E (xV (Instr.loadAt 30 d7f)) W5 fun d7g a0b =>
 opK Tryd.prog E (xV (Instr.alloc 30 true (.tuple #[]))) a0b fun c5l T4 =>
 opK Tryd.prog E (xU (Instr.storeAt 30 c5l d7g)) T4 fun _z_71 Y1 =>
 opK Tryd.prog E (xV (Instr.loadAt 103 x2)) Y1 fun d7h a0m =>
 opK Tryd.prog E (xV (Instr.loadAt 30 c5l)) a0m fun d7i Y2 =>
 opK Tryd.prog E (xCall d7h [d7i]) Y2 fun _t31_77 a0d =>
 opK Tryd.prog E (xBin .add 3 (.tmp 25) (.const (Value.int .i64 1)) x25 (Value.int .i64 1)) a0d fun d7j W6 =>
 next3 [d7j] W6)
 (j1 [] S8)
def F70 (x0 x1 x2 x3 : Value) (w : World) (R : Value → World → Prop) (E : Pan) : Prop :=
 opK Tryd.prog E (xV (Instr.box 33 x0)) w fun a4S w_2 =>
 opK Tryd.prog E (xV (Instr.loadAt 115 x1)) w_2 fun a3o w_4 =>
 opK Tryd.prog E (xV (Instr.fieldAt 33 a4S 0)) w_4 fun a2M w_6 =>
 opK Tryd.prog E (xV (Instr.loadAt 3 a2M)) w_6 fun a6T w_8 =>
 opK Tryd.prog E (xV (Instr.fieldAt 33 a4S 1)) w_8 fun a8W k8 =>
 opK Tryd.prog E (xV (Instr.loadAt 3 a8W)) k8 fun d7k o9 =>
 opK Tryd.prog E (xV (Instr.fieldAt 33 a4S 3)) o9 fun d7l o0 =>
 opK Tryd.prog E (xV (Instr.loadAt 31 d7l)) o0 fun d7m r7 =>
 opK Tryd.prog E (xBuiltin .len #[31] 3 [false] [d7m]) r7 fun d7n s7 =>
 opK Tryd.prog E (xV (Instr.fieldAt 33 a4S 2)) s7 fun b3T r6 =>
 opK Tryd.prog E (xV (Instr.loadAt 28 b3T)) r6 fun b3U u2 =>
 opK Tryd.prog E (xBuiltin .len #[28] 3 [false] [b3U]) u2 fun b3V s9 =>
 opK Tryd.prog E (xV (Instr.build 114 #[(0, d7n), (1, b3V)])) s9 fun d7o y7 =>
 opK Tryd.prog E (xCall a3o [(Value.int .u8 67), a6T, d7k, (Value.string ⟨#[]⟩), d7o]) y7 fun _t21_27 B5 =>
 xcut (fun _ T3 => b6a x3 a4S T3 R E) fun j1 =>
 opK Tryd.prog E (xV (Instr.fieldAt 33 a4S 2)) B5 fun a6n S7 =>
 opK Tryd.prog E (xV (Instr.loadAt 28 a6n)) S7 fun a8b W4 =>
 opK Tryd.prog E (xBuiltin .len #[28] 3 [false] [a8b]) W4 fun b0W Z9 =>
 xloop [25] [(Value.int .i64 0)] Z9 fun τ_81 a0M next3 =>
 c1K x2 x3 a4S a8b b0W (τ_81 25) a0M next3 j1 R E
noncomputable def c70 : Code := Tryd.f70.body.getD .skip
def h70 : Hint := (.seq .none (.seq .none (.cut [] (.seq .none (.block (.loop [25] (.seq .none (.seq (.cond .none .none) (.seq (.block (.seq .none .none)) .none)))))) (.seq .none (.block (.loop [36] (.seq .none (.seq (.cond .none .none) (.seq (.block (.seq .none .none)) .none)))))))))
theorem d7p (x0 x1 x2 x3 : Value) (w : World) (R : Value → World → Prop) (E : Pan) : F70 x0 x1 x2 x3 w R E = callX Tryd.prog [] c70 h70 [x0, x1, x2, x3] w R E := by kernel_rfl
theorem d7q {x0 x1 x2 x3 : Value} {w : World} {R : Value → World → Prop} {E : Pan} (h : F70 x0 x1 x2 x3 w R E) : Cv Tryd.prog 70 #[x0, x1, x2, x3] w R E := by
 refine f7 (args := [x0, x1, x2, x3]) (c := c70) (h := h70) (rs := []) Tryd.func70 (by kernel_rfl) (by kernel_rfl) (Nat.le_of_ble_eq_true (by kernel_rfl)) (by kernel_rfl) (by kernel_rfl) (by kernel_rfl) ?_
 rw [← d7p]
 exact h
def b6b (_x1 _x2 _x3 _x4 _x12 _x13 x14 : Value) (w : World) (next1 : List Value → World → Prop) (_R : Value → World → Prop) (E : Pan) : Prop :=
 ∀ _τ : Fr, (opK Tryd.prog E (xBin .add 3 (.tmp 14) (.const (Value.int .i64 1)) x14 (Value.int .i64 1)) w fun d9k w_6 =>
 next1 [d9k] w_6)
def b6c (_x1 _x2 _x3 x4 x7 _x12 _x13 _x14 : Value) (w : World) (j2 : List Value → World → Prop) (_R : Value → World → Prop) (E : Pan) : Prop :=
 ∀ _τ : Fr, (opK Tryd.prog E (xV (Instr.loadAt 116 x4)) w fun d7r T3 =>
 opK Tryd.prog E (xV (Instr.fieldAt 88 x7 4)) T3 fun d7s S7 =>
 opK Tryd.prog E (xV (Instr.loadAt 23 d7s)) S7 fun d7t W4 =>
 opK Tryd.prog E (xCall d7r [d7t]) W4 fun _t62_61 Z9 =>
 opK Tryd.prog E (xV (Instr.loadAt 116 x4)) Z9 fun d7u S8 =>
 opK Tryd.prog E (xV (Instr.fieldAt 88 x7 5)) S8 fun d7v W5 =>
 opK Tryd.prog E (xV (Instr.loadAt 23 d7v)) W5 fun d7w a0b =>
 opK Tryd.prog E (xCall d7u [d7w]) a0b fun _t66_69 T4 =>
 j2 [] T4)
def c1L (_x1 _x2 x3 _x4 _x7 _x12 _x13 _x14 x49 x50 x51 : Value) (w : World) (next5 : List Value → World → Prop) (j4 : List Value → World → Prop) (_R : Value → World → Prop) (E : Pan) : Prop :=
 opK Tryd.prog E (xBin .lss 3 (.tmp 51) (.tmp 50) x51 x50) w fun d7x W6 =>
 xcond d7x
 (opK Tryd.prog E (xV (Instr.indexAt 28 x49 x51)) W6 fun d7y a0M =>
 opK Tryd.prog E (xV (Instr.loadAt 30 d7y)) a0M fun d7z a1X =>
 opK Tryd.prog E (xV (Instr.alloc 30 true (.tuple #[]))) a1X fun c1M a2G =>
 opK Tryd.prog E (xU (Instr.storeAt 30 c1M d7z)) a2G fun _z_87 a1y =>
 opK Tryd.prog E (xV (Instr.loadAt 103 x3)) a1y fun d7A a4O =>
 opK Tryd.prog E (xV (Instr.loadAt 30 c1M)) a4O fun d7B a4P =>
 opK Tryd.prog E (xCall d7A [d7B]) a4P fun _t57_93 a3m =>
 opK Tryd.prog E (xBin .add 3 (.tmp 51) (.const (Value.int .i64 1)) x51 (Value.int .i64 1)) a3m fun d7C a3W =>
 next5 [d7C] a3W)
 (j4 [] W6)
def b6d (x1 x2 x3 x4 x7 x12 x13 x14 : Value) (w : World) (j2 : List Value → World → Prop) (R : Value → World → Prop) (E : Pan) : Prop :=
 ∀ _τ : Fr, (xcut (fun _ Y1 => b6c x1 x2 x3 x4 x7 x12 x13 x14 Y1 j2 R E) fun j4 =>
 opK Tryd.prog E (xV (Instr.fieldAt 88 x7 2)) w fun d7D a0m =>
 opK Tryd.prog E (xV (Instr.loadAt 28 d7D)) a0m fun c1N Y2 =>
 opK Tryd.prog E (xBuiltin .len #[28] 3 [false] [c1N]) Y2 fun d7E a0d =>
 xloop [51] [(Value.int .i64 0)] a0d fun τ_97 a4Q next5 =>
 c1L x1 x2 x3 x4 x7 x12 x13 x14 c1N d7E (τ_97 51) a4Q next5 j4 R E)
def c1O (_x1 x2 _x3 _x4 _x7 _x12 _x13 _x14 x38 x39 x40 : Value) (w : World) (next6 : List Value → World → Prop) (j3 : List Value → World → Prop) (_R : Value → World → Prop) (E : Pan) : Prop :=
 opK Tryd.prog E (xBin .lss 3 (.tmp 40) (.tmp 39) x40 x39) w fun c7Q a4o =>
 xcond c7Q
 (opK Tryd.prog E (xV (Instr.indexAt 31 x38 x40)) a4o fun c7R a6Q =>
 opK Tryd.prog E (xV (Instr.loadAt 33 c7R)) a6Q fun c7S a6R =>
 opK Tryd.prog E (xV (Instr.alloc 33 true (.tuple #[]))) a6R fun c1P b0J =>
 opK Tryd.prog E (xU (Instr.storeAt 33 c1P c7S)) b0J fun _z_115 b0K =>
 opK Tryd.prog E (xV (Instr.loadAt 108 x2)) b0K fun c7T b0L =>
 opK Tryd.prog E (xV (Instr.loadAt 33 c1P)) b0L fun c7U b0M =>
 opK Tryd.prog E (xCall c7T [c7U]) b0M fun _t46_121 b7U =>
 opK Tryd.prog E (xBin .add 3 (.tmp 40) (.const (Value.int .i64 1)) x40 (Value.int .i64 1)) b7U fun c7V b7V =>
 next6 [c7V] b7V)
 (j3 [] a4o)
def c1Q (x1 x2 x3 x4 x12 x13 x14 : Value) (w : World) (next1 : List Value → World → Prop) (R : Value → World → Prop) (E : Pan) : Prop :=
 opK Tryd.prog E (xBin .lss 3 (.tmp 14) (.tmp 13) x14 x13) w fun d9l w_4 =>
 xcond d9l
 (xcut (fun _ w_8 => b6b x1 x2 x3 x4 x12 x13 x14 w_8 next1 R E) fun j2 =>
 opK Tryd.prog E (xV (Instr.indexAt 23 x12 x14)) w_4 fun d9m k8 =>
 opK Tryd.prog E (xV (Instr.loadAt 88 d9m)) k8 fun a8A o9 =>
 opK Tryd.prog E (xV (Instr.alloc 88 true (.tuple #[]))) o9 fun a3J o0 =>
 opK Tryd.prog E (xU (Instr.storeAt 88 a3J a8A)) o0 fun _z_15 r7 =>
 opK Tryd.prog E (xV (Instr.loadAt 115 x1)) r7 fun b4e s7 =>
 opK Tryd.prog E (xV (Instr.fieldAt 88 a3J 0)) s7 fun b4f r6 =>
 opK Tryd.prog E (xV (Instr.loadAt 3 b4f)) r6 fun b4g u2 =>
 opK Tryd.prog E (xV (Instr.fieldAt 88 a3J 1)) u2 fun d7F s9 =>
 opK Tryd.prog E (xV (Instr.loadAt 9 d7F)) s9 fun b4k y7 =>
 opK Tryd.prog E (xV (Instr.fieldAt 88 a3J 3)) y7 fun d7G B5 =>
 opK Tryd.prog E (xV (Instr.loadAt 31 d7G)) B5 fun b5R C5 =>
 opK Tryd.prog E (xBuiltin .len #[31] 3 [false] [b5R]) C5 fun b5S B6 =>
 opK Tryd.prog E (xV (Instr.fieldAt 88 a3J 2)) B6 fun b5T D5 =>
 opK Tryd.prog E (xV (Instr.loadAt 28 b5T)) D5 fun b5U E4 =>
 opK Tryd.prog E (xBuiltin .len #[28] 3 [false] [b5U]) E4 fun b5V E0 =>
 opK Tryd.prog E (xV (Instr.fieldAt 88 a3J 4)) E0 fun b4t G6 =>
 opK Tryd.prog E (xV (Instr.loadAt 23 b4t)) G6 fun b4z G9 =>
 opK Tryd.prog E (xBuiltin .len #[23] 3 [false] [b4z]) G9 fun b4A H8 =>
 opK Tryd.prog E (xV (Instr.fieldAt 88 a3J 5)) H8 fun b4B J4 =>
 opK Tryd.prog E (xV (Instr.loadAt 23 b4B)) J4 fun b4C M5 =>
 opK Tryd.prog E (xBuiltin .len #[23] 3 [false] [b4C]) M5 fun b4D J5 =>
 opK Tryd.prog E (xV (Instr.build 114 #[(0, b5S), (1, b5V), (2, b4A), (3, b4D)])) J5 fun b4E Q0 =>
 opK Tryd.prog E (xCall b4e [(Value.int .u8 83), b4g, (Value.int .i64 0), b4k, b4E]) Q0 fun _t36_53 R7 =>
 xcut (fun _ a1q => b6d x1 x2 x3 x4 a3J x12 x13 x14 a1q j2 R E) fun j3 =>
 opK Tryd.prog E (xV (Instr.fieldAt 88 a3J 3)) R7 fun c7W a1M =>
 opK Tryd.prog E (xV (Instr.loadAt 31 c7W)) a1M fun b7b a3G =>
 opK Tryd.prog E (xBuiltin .len #[31] 3 [false] [b7b]) a3G fun c7X a4n =>
 xloop [40] [(Value.int .i64 0)] a4n fun τ_125 b3i next6 =>
 c1O x1 x2 x3 x4 a3J x12 x13 x14 b7b c7X (τ_125 40) b3i next6 j3 R E)
 (R (Value.tuple #[]) w_4)
def F71 (x0 x1 x2 x3 x4 : Value) (w : World) (R : Value → World → Prop) (E : Pan) : Prop :=
 opK Tryd.prog E (xBuiltin .len #[23] 3 [false] [x0]) w fun d9n w_2 =>
 xloop [14] [(Value.int .i64 0)] w_2 fun τ_127 b7W next1 =>
 c1Q x1 x2 x3 x4 x0 d9n (τ_127 14) b7W next1 R E
noncomputable def c71 : Code := Tryd.f71.body.getD .skip
def h71 : Hint := (.seq .none (.block (.loop [14] (.seq .none (.seq (.cond .none .none) (.cut [] (.block (.seq .none (.seq .none (.cut [] (.seq .none (.block (.loop [40] (.seq .none (.seq (.cond .none .none) (.seq (.block (.seq .none .none)) .none)))))) (.cut [] (.seq .none (.block (.loop [51] (.seq .none (.seq (.cond .none .none) (.seq (.block (.seq .none .none)) .none)))))) (.seq .none .none)))))) .none))))))
theorem d7H (x0 x1 x2 x3 x4 : Value) (w : World) (R : Value → World → Prop) (E : Pan) : F71 x0 x1 x2 x3 x4 w R E = callX Tryd.prog [] c71 h71 [x0, x1, x2, x3, x4] w R E := by kernel_rfl
theorem d7I {x0 x1 x2 x3 x4 : Value} {w : World} {R : Value → World → Prop} {E : Pan} (h : F71 x0 x1 x2 x3 x4 w R E) : Cv Tryd.prog 71 #[x0, x1, x2, x3, x4] w R E := by
 refine f7 (args := [x0, x1, x2, x3, x4]) (c := c71) (h := h71) (rs := []) Tryd.func71 (by kernel_rfl) (by kernel_rfl) (Nat.le_of_ble_eq_true (by kernel_rfl)) (by kernel_rfl) (by kernel_rfl) (by kernel_rfl) ?_
 rw [← d7H]
 exact h
end Go.Proofs.YthldnpmfelniiaaDoor
