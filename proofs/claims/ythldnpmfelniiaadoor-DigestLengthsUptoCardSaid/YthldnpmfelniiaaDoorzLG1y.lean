/- The second reading of some of the program's functions, printed by gen2.py off the code; each is held against the code by the kernel. -/
import Derived.Test.YthldnpmfelniiaaDoorProg
import Derived.Test.YthldnpmfelniiaaDoorzLK0
import Derived.KernelRfl
namespace Go.Proofs.YthldnpmfelniiaaDoor
open Go.RowKit
set_option maxRecDepth 100000
def h6 : Hint := (.seq .none (.seq (.seq .none (.cond (.seq .none .none) .none)) (.seq .none (.seq .none (.seq .none (.seq .none (.seq (.seq .none (.cond (.seq .none .none) .none)) (.seq (.seq .none (.cond (.seq .none .none) .none)) (.seq .none (.seq .none .none))))))))))
def F37 (x0 : Value) (w : World) (R : Value → World → Prop) (E : Pan) : Prop :=
 opK Tryd.prog E (xV (Instr.box 25 x0)) w fun o7 w_2 =>
 opK Tryd.prog E (xV (Instr.fieldAt 25 o7 1)) w_2 fun a1V w_4 =>
 opK Tryd.prog E (xV (Instr.loadAt 23 a1V)) w_4 fun Y0 w_6 =>
 opK Tryd.prog E (xCall (Value.func (.func 74) #[] #[]) [(Value.slice none 0 0), Y0]) w_6 fun a1W w_8 =>
 R a1W w_8
noncomputable def c37 : Code := Tryd.f37.body.getD .skip
def h37 : Hint := (.seq .none (.seq .none .none))
theorem d3A (x0 : Value) (w : World) (R : Value → World → Prop) (E : Pan) : F37 x0 w R E = callX Tryd.prog [.tmp 2] c37 h37 [x0] w R E := by kernel_rfl
theorem d3B {x0 : Value} {w : World} {R : Value → World → Prop} {E : Pan} (h : F37 x0 w R E) : Cv Tryd.prog 37 #[x0] w R E := by
 refine f7 (args := [x0]) (c := c37) (h := h37) (rs := [.tmp 2]) Tryd.func37 (by kernel_rfl) (by kernel_rfl) (Nat.le_of_ble_eq_true (by kernel_rfl)) (by kernel_rfl) (by kernel_rfl) (by kernel_rfl) ?_
 rw [← d3A]
 exact h
def b5C (x0 : Value) (w : World) (R : Value → World → Prop) (_E : Pan) : Prop :=
 ∀ _τ : Fr, (R x0 w)
def b5D (x0 _x1 x5 : Value) (w : World) (next2 : List Value → World → Prop) (_R : Value → World → Prop) (E : Pan) : Prop :=
 ∀ _τ : Fr, (opK Tryd.prog E (xBin .add 3 (.tmp 13) (.const (Value.int .i64 1)) x5 (Value.int .i64 1)) w fun b0X w_8 =>
 next2 [x0, b0X] w_8)
def b5E (x0 _x1 _x5 x6 : Value) (w : World) (j3 : List Value → World → Prop) (_R : Value → World → Prop) (E : Pan) : Prop :=
 ∀ _τ : Fr, (opK Tryd.prog E (xV (Instr.fieldAt 88 x6 4)) w fun d3C r6 =>
 opK Tryd.prog E (xV (Instr.loadAt 23 d3C)) r6 fun d3D u2 =>
 opK Tryd.prog E (xCall (Value.func (.func 74) #[] #[]) [x0, d3D]) u2 fun d3E s9 =>
 opK Tryd.prog E (xV (Instr.fieldAt 88 x6 5)) s9 fun d3F y7 =>
 opK Tryd.prog E (xV (Instr.loadAt 23 d3F)) y7 fun d3G B5 =>
 opK Tryd.prog E (xCall (Value.func (.func 74) #[] #[]) [d3E, d3G]) B5 fun d3H C5 =>
 j3 [d3H] C5)
def c1v (x0 _x1 _x5 x6 x8 : Value) (w : World) (next7 : List Value → World → Prop) (j6 : List Value → World → Prop) (_R : Value → World → Prop) (E : Pan) : Prop :=
 opK Tryd.prog E (xV (Instr.fieldAt 88 x6 2)) w fun d3I D5 =>
 opK Tryd.prog E (xV (Instr.loadAt 28 d3I)) D5 fun d3J E4 =>
 opK Tryd.prog E (xBuiltin .len #[28] 3 [false] [d3J]) E4 fun d3K E0 =>
 opK Tryd.prog E (xBin .lss 3 (.tmp 50) (.tmp 53) x8 d3K) E0 fun d3L G6 =>
 xcond d3L
 (opK Tryd.prog E (xV (Instr.fieldAt 88 x6 2)) G6 fun d3M G9 =>
 opK Tryd.prog E (xV (Instr.loadAt 28 d3M)) G9 fun d3N H8 =>
 opK Tryd.prog E (xV (Instr.indexAt 28 d3N x8)) H8 fun d3O J4 =>
 opK Tryd.prog E (xV (Instr.loadAt 30 d3O)) J4 fun d3P M5 =>
 opK Tryd.prog E (xCall (Value.func (.func 102) #[] #[]) [x0, d3P]) M5 fun d3Q J5 =>
 opK Tryd.prog E (xBin .add 3 (.tmp 55) (.const (Value.int .i64 1)) x8 (Value.int .i64 1)) J5 fun d3R Q0 =>
 next7 [d3Q, d3R] Q0)
 (j6 [x0] G6)
def b5F (x0 x1 x5 x6 : Value) (w : World) (j3 : List Value → World → Prop) (R : Value → World → Prop) (E : Pan) : Prop :=
 ∀ _τ : Fr, (xcut (fun d3S B6 => b5E (nth d3S 0) x1 x5 x6 B6 j3 R E) fun j6 =>
 xloop [0, 8] [x0, (Value.int .i64 0)] w fun τ_53 R7 next7 =>
 c1v (τ_53 0) x1 x5 x6 (τ_53 8) R7 next7 j6 R E)
def c1w (x0 _x1 _x5 x6 x7 : Value) (w : World) (next8 : List Value → World → Prop) (j5 : List Value → World → Prop) (_R : Value → World → Prop) (E : Pan) : Prop :=
 opK Tryd.prog E (xV (Instr.fieldAt 88 x6 3)) w fun d3T S7 =>
 opK Tryd.prog E (xV (Instr.loadAt 31 d3T)) S7 fun d3U W4 =>
 opK Tryd.prog E (xBuiltin .len #[31] 3 [false] [d3U]) W4 fun d3V Z9 =>
 opK Tryd.prog E (xBin .lss 3 (.tmp 36) (.tmp 39) x7 d3V) Z9 fun d3W S8 =>
 xcond d3W
 (opK Tryd.prog E (xV (Instr.fieldAt 88 x6 3)) S8 fun d3X W5 =>
 opK Tryd.prog E (xV (Instr.loadAt 31 d3X)) W5 fun d3Y a0b =>
 opK Tryd.prog E (xV (Instr.indexAt 31 d3Y x7)) a0b fun b4G T4 =>
 opK Tryd.prog E (xV (Instr.loadAt 33 b4G)) T4 fun b4H Y1 =>
 opK Tryd.prog E (xCall (Value.func (.func 101) #[] #[]) [x0, b4H]) Y1 fun d3Z a0m =>
 opK Tryd.prog E (xBin .add 3 (.tmp 41) (.const (Value.int .i64 1)) x7 (Value.int .i64 1)) a0m fun d4a Y2 =>
 next8 [d3Z, d4a] Y2)
 (j5 [x0] S8)
def b5G (x0 x1 x5 x6 : Value) (w : World) (j3 : List Value → World → Prop) (R : Value → World → Prop) (E : Pan) : Prop :=
 ∀ _τ : Fr, (xcut (fun e2E T3 => b5F (nth e2E 0) x1 x5 x6 T3 j3 R E) fun j5 =>
 xloop [0, 7] [x0, (Value.int .i64 0)] w fun τ_77 a0d next8 =>
 c1w (τ_77 0) x1 x5 x6 (τ_77 7) a0d next8 j5 R E)
def c1x (x0 x1 x5 : Value) (w : World) (next2 : List Value → World → Prop) (j1 : List Value → World → Prop) (R : Value → World → Prop) (E : Pan) : Prop :=
 opK Tryd.prog E (xBuiltin .len #[23] 3 [false] [x1]) w fun b0H w_4 =>
 opK Tryd.prog E (xBin .lss 3 (.tmp 9) (.tmp 11) x5 b0H) w_4 fun a4l w_6 =>
 xcond a4l
 (xcut (fun l_9 k8 => b5D (nth l_9 0) x1 x5 k8 next2 R E) fun j3 =>
 opK Tryd.prog E (xV (Instr.indexAt 23 x1 x5)) w_6 fun a8A o9 =>
 opK Tryd.prog E (xV (Instr.loadAt 88 a8A)) o9 fun a4L o0 =>
 opK Tryd.prog E (xV (Instr.alloc 88 true (.tuple #[]))) o0 fun a9j r7 =>
 opK Tryd.prog E (xU (Instr.storeAt 88 a9j a4L)) r7 fun _z_17 s7 =>
 xcut (fun a5Z W6 => b5G (nth a5Z 0) x1 x5 a9j W6 j3 R E) fun j4 =>
 opK Tryd.prog E (xV (Instr.fieldAt 88 a9j 0)) s7 fun d4b a0M =>
 opK Tryd.prog E (xV (Instr.loadAt 3 d4b)) a0M fun d4c a1X =>
 opK Tryd.prog E (xBin .eql 3 (.tmp 20) (.const (Value.int .i64 1)) d4c (Value.int .i64 1)) a1X fun b1n a2G =>
 opK Tryd.prog E (gsem (asB b1n) false (xV (Instr.fieldAt 88 a9j 0))) a2G fun d4d a1y =>
 opK Tryd.prog E (gsem (asB b1n) false (xV (Instr.loadAt 3 d4d))) a1y fun d4e a4O =>
 opK Tryd.prog E (gsem (asB b1n) false (xBin .eql 3 (.tmp 24) (.const (Value.int .i64 2)) d4e (Value.int .i64 2))) a4O fun d4f a4P =>
 opK Tryd.prog E (xPick b1n (Value.bool true) d4f) a4P fun d4g a3m =>
 xcond d4g
 (opK Tryd.prog E (xV (Instr.fieldAt 88 a9j 1)) a3m fun d4h a3W =>
 opK Tryd.prog E (xV (Instr.loadAt 9 d4h)) a3W fun d4i a4Q =>
 opK Tryd.prog E (xV (Instr.fieldAt 88 a9j 0)) a4Q fun d4j a1q =>
 opK Tryd.prog E (xV (Instr.loadAt 3 d4j)) a1q fun c7G a1M =>
 opK Tryd.prog E (xBin .eql 3 (.tmp 31) (.const (Value.int .i64 2)) c7G (Value.int .i64 2)) a1M fun c7H a3G =>
 opK Tryd.prog E (xV (Instr.build 71 #[(0, d4i), (1, c7H)])) a3G fun c7I a4n =>
 opK Tryd.prog E (xV (Instr.buildSlice 68 1 #[(0, c7I)])) a4n fun c7J a4o =>
 opK Tryd.prog E (xBuiltin .append #[68, 68] 68 [false, false] [x0, c7J]) a4o fun c7K a6Q =>
 j4 [c7K] a6Q)
 (j4 [x0] a3m))
 (j1 [x0] w_6)
def F74 (x0 x1 : Value) (w : World) (R : Value → World → Prop) (E : Pan) : Prop :=
 xcut (fun l_1 w_2 => b5C (nth l_1 0) w_2 R E) fun j1 =>
 xloop [0, 5] [x0, (Value.int .i64 0)] w fun τ_111 a6R next2 =>
 c1x (τ_111 0) x1 (τ_111 5) a6R next2 j1 R E
noncomputable def c74 : Code := Tryd.f74.body.getD .skip
def h74 : Hint := (.seq .none (.cut [0] (.seq .none (.block (.loop [0, 5] (.seq (.seq .none (.cond .none .none)) (.cut [0] (.block (.seq .none (.cut [0] (.seq .none (.cond .none .none)) (.cut [0] (.seq .none (.block (.loop [0, 7] (.seq (.seq .none (.cond .none .none)) (.seq (.block .none) .none))))) (.cut [0] (.seq .none (.block (.loop [0, 8] (.seq (.seq .none (.cond .none .none)) (.seq (.block .none) .none))))) (.seq .none .none)))))) .none))))) (.seq .none .none)))
theorem d4k (x0 x1 : Value) (w : World) (R : Value → World → Prop) (E : Pan) : F74 x0 x1 w R E = callX Tryd.prog [.tmp 4] c74 h74 [x0, x1] w R E := by kernel_rfl
theorem d4l {x0 x1 : Value} {w : World} {R : Value → World → Prop} {E : Pan} (h : F74 x0 x1 w R E) : Cv Tryd.prog 74 #[x0, x1] w R E := by
 refine f7 (args := [x0, x1]) (c := c74) (h := h74) (rs := [.tmp 4]) Tryd.func74 (by kernel_rfl) (by kernel_rfl) (Nat.le_of_ble_eq_true (by kernel_rfl)) (by kernel_rfl) (by kernel_rfl) (by kernel_rfl) ?_
 rw [← d4k]
 exact h
def b2x (x0 : Value) (w : World) (R : Value → World → Prop) (_E : Pan) : Prop :=
 ∀ _τ : Fr, (R x0 w)
def b6W (x0 x3 x6 : Value) (w : World) (next3 : List Value → World → Prop) (j2 : List Value → World → Prop) (_R : Value → World → Prop) (E : Pan) : Prop :=
 opK Tryd.prog E (xV (Instr.fieldAt 33 x3 3)) w fun d8I w_6 =>
 opK Tryd.prog E (xV (Instr.loadAt 31 d8I)) w_6 fun d8J w_8 =>
 opK Tryd.prog E (xBuiltin .len #[31] 3 [false] [d8J]) w_8 fun d8K k8 =>
 opK Tryd.prog E (xBin .lss 3 (.tmp 21) (.tmp 24) x6 d8K) k8 fun d4m o9 =>
 xcond d4m
 (opK Tryd.prog E (xV (Instr.fieldAt 33 x3 3)) o9 fun d4n o0 =>
 opK Tryd.prog E (xV (Instr.loadAt 31 d4n)) o0 fun d4o r7 =>
 opK Tryd.prog E (xV (Instr.indexAt 31 d4o x6)) r7 fun d4p s7 =>
 opK Tryd.prog E (xV (Instr.loadAt 33 d4p)) s7 fun d4q r6 =>
 opK Tryd.prog E (xCall (Value.func (.func 101) #[] #[]) [x0, d4q]) r6 fun d4r u2 =>
 opK Tryd.prog E (xBin .add 3 (.tmp 26) (.const (Value.int .i64 1)) x6 (Value.int .i64 1)) u2 fun d4s s9 =>
 next3 [d4r, d4s] s9)
 (j2 [x0] o9)
def b2y (x0 x3 : Value) (w : World) (R : Value → World → Prop) (E : Pan) : Prop :=
 ∀ _τ : Fr, (xcut (fun l_3 w_4 => b2x (nth l_3 0) w_4 R E) fun j2 =>
 xloop [0, 6] [x0, (Value.int .i64 0)] w fun τ_25 y7 next3 =>
 b6W (τ_25 0) x3 (τ_25 6) y7 next3 j2 R E)
def b6X (x0 x3 x5 : Value) (w : World) (next4 : List Value → World → Prop) (j1 : List Value → World → Prop) (_R : Value → World → Prop) (E : Pan) : Prop :=
 opK Tryd.prog E (xV (Instr.fieldAt 33 x3 2)) w fun d8L C5 =>
 opK Tryd.prog E (xV (Instr.loadAt 28 d8L)) C5 fun d8M B6 =>
 opK Tryd.prog E (xBuiltin .len #[28] 3 [false] [d8M]) B6 fun d4t D5 =>
 opK Tryd.prog E (xBin .lss 3 (.tmp 7) (.tmp 10) x5 d4t) D5 fun d4u E4 =>
 xcond d4u
 (opK Tryd.prog E (xV (Instr.fieldAt 33 x3 2)) E4 fun d4v E0 =>
 opK Tryd.prog E (xV (Instr.loadAt 28 d4v)) E0 fun d4w G6 =>
 opK Tryd.prog E (xV (Instr.indexAt 28 d4w x5)) G6 fun d4x G9 =>
 opK Tryd.prog E (xV (Instr.loadAt 30 d4x)) G9 fun d4y H8 =>
 opK Tryd.prog E (xCall (Value.func (.func 102) #[] #[]) [x0, d4y]) H8 fun d4z J4 =>
 opK Tryd.prog E (xBin .add 3 (.tmp 12) (.const (Value.int .i64 1)) x5 (Value.int .i64 1)) J4 fun d4A M5 =>
 next4 [d4z, d4A] M5)
 (j1 [x0] E4)
def b8N (x0 x1 : Value) (w : World) (R : Value → World → Prop) (E : Pan) : Prop :=
 opK Tryd.prog E (xV (Instr.box 33 x1)) w fun a2W w_2 =>
 xcut (fun a9O B5 => b2y (nth a9O 0) a2W B5 R E) fun j1 =>
 xloop [0, 5] [x0, (Value.int .i64 0)] w_2 fun τ_49 J5 next4 =>
 b6X (τ_49 0) a2W (τ_49 5) J5 next4 j1 R E
noncomputable def d4B : Code := Tryd.f101.body.getD .skip
def d4C : Hint := (.seq .none (.cut [0] (.seq .none (.block (.loop [0, 5] (.seq (.seq .none (.cond .none .none)) (.seq (.block .none) .none))))) (.cut [0] (.seq .none (.block (.loop [0, 6] (.seq (.seq .none (.cond .none .none)) (.seq (.block .none) .none))))) (.seq .none .none))))
theorem c7L (x0 x1 : Value) (w : World) (R : Value → World → Prop) (E : Pan) : b8N x0 x1 w R E = callX Tryd.prog [.tmp 4] d4B d4C [x0, x1] w R E := by kernel_rfl
theorem c7M {x0 x1 : Value} {w : World} {R : Value → World → Prop} {E : Pan} (h : b8N x0 x1 w R E) : Cv Tryd.prog 101 #[x0, x1] w R E := by
 refine f7 (args := [x0, x1]) (c := d4B) (h := d4C) (rs := [.tmp 4]) Tryd.func101 (by kernel_rfl) (by kernel_rfl) (Nat.le_of_ble_eq_true (by kernel_rfl)) (by kernel_rfl) (by kernel_rfl) (by kernel_rfl) ?_
 rw [← c7L]
 exact h
def b2z (x0 : Value) (w : World) (R : Value → World → Prop) (_E : Pan) : Prop :=
 ∀ _τ : Fr, (R x0 w)
def b6Y (x0 x3 x5 : Value) (w : World) (next3 : List Value → World → Prop) (j2 : List Value → World → Prop) (_R : Value → World → Prop) (E : Pan) : Prop :=
 opK Tryd.prog E (xV (Instr.fieldAt 30 x3 3)) w fun d8N w_6 =>
 opK Tryd.prog E (xV (Instr.loadAt 28 d8N)) w_6 fun d8O w_8 =>
 opK Tryd.prog E (xBuiltin .len #[28] 3 [false] [d8O]) w_8 fun d8P k8 =>
 opK Tryd.prog E (xBin .lss 3 (.tmp 23) (.tmp 26) x5 d8P) k8 fun d4D o9 =>
 xcond d4D
 (opK Tryd.prog E (xV (Instr.fieldAt 30 x3 3)) o9 fun d4E o0 =>
 opK Tryd.prog E (xV (Instr.loadAt 28 d4E)) o0 fun d4F r7 =>
 opK Tryd.prog E (xV (Instr.indexAt 28 d4F x5)) r7 fun d4G s7 =>
 opK Tryd.prog E (xV (Instr.loadAt 30 d4G)) s7 fun d4H r6 =>
 opK Tryd.prog E (xCall (Value.func (.func 102) #[] #[]) [x0, d4H]) r6 fun d4I u2 =>
 opK Tryd.prog E (xBin .add 3 (.tmp 28) (.const (Value.int .i64 1)) x5 (Value.int .i64 1)) u2 fun d4J s9 =>
 next3 [d4I, d4J] s9)
 (j2 [x0] o9)
def b2A (x0 x3 : Value) (w : World) (R : Value → World → Prop) (E : Pan) : Prop :=
 ∀ _τ : Fr, (xcut (fun l_3 w_4 => b2z (nth l_3 0) w_4 R E) fun j2 =>
 xloop [0, 5] [x0, (Value.int .i64 0)] w fun τ_25 y7 next3 =>
 b6Y (τ_25 0) x3 (τ_25 5) y7 next3 j2 R E)
def b8O (x0 x1 : Value) (w : World) (R : Value → World → Prop) (E : Pan) : Prop :=
 opK Tryd.prog E (xV (Instr.box 30 x1)) w fun a2W w_2 =>
 xcut (fun a9O B5 => b2A (nth a9O 0) a2W B5 R E) fun j1 =>
 opK Tryd.prog E (xV (Instr.fieldAt 30 a2W 0)) w_2 fun d8Q C5 =>
 opK Tryd.prog E (xV (Instr.loadAt 3 d8Q)) C5 fun d8R B6 =>
 opK Tryd.prog E (xBin .eql 3 (.tmp 7) (.const (Value.int .i64 2)) d8R (Value.int .i64 2)) B6 fun b3j D5 =>
 opK Tryd.prog E (gsem (asB b3j) false (xV (Instr.fieldAt 30 a2W 0))) D5 fun d4K E4 =>
 opK Tryd.prog E (gsem (asB b3j) false (xV (Instr.loadAt 3 d4K))) E4 fun d4L E0 =>
 opK Tryd.prog E (gsem (asB b3j) false (xBin .eql 3 (.tmp 11) (.const (Value.int .i64 4)) d4L (Value.int .i64 4))) E0 fun d4M G6 =>
 opK Tryd.prog E (xPick b3j (Value.bool true) d4M) G6 fun d4N G9 =>
 xcond d4N
 (opK Tryd.prog E (xV (Instr.fieldAt 30 a2W 2)) G9 fun b0P H8 =>
 opK Tryd.prog E (xV (Instr.loadAt 9 b0P)) H8 fun b0Q J4 =>
 opK Tryd.prog E (xV (Instr.fieldAt 30 a2W 0)) J4 fun b0R M5 =>
 opK Tryd.prog E (xV (Instr.loadAt 3 b0R)) M5 fun b0S J5 =>
 opK Tryd.prog E (xBin .eql 3 (.tmp 18) (.const (Value.int .i64 4)) b0S (Value.int .i64 4)) J5 fun b0T Q0 =>
 opK Tryd.prog E (xV (Instr.build 71 #[(0, b0Q), (1, b0T)])) Q0 fun b0U R7 =>
 opK Tryd.prog E (xV (Instr.buildSlice 68 1 #[(0, b0U)])) R7 fun b0V T3 =>
 opK Tryd.prog E (xBuiltin .append #[68, 68] 68 [false, false] [x0, b0V]) T3 fun a6n S7 =>
 j1 [a6n] S7)
 (j1 [x0] G9)
noncomputable def d4O : Code := Tryd.f102.body.getD .skip
def d4P : Hint := (.seq .none (.cut [0] (.seq .none (.cond .none .none)) (.cut [0] (.seq .none (.block (.loop [0, 5] (.seq (.seq .none (.cond .none .none)) (.seq (.block .none) .none))))) (.seq .none .none))))
theorem c7N (x0 x1 : Value) (w : World) (R : Value → World → Prop) (E : Pan) : b8O x0 x1 w R E = callX Tryd.prog [.tmp 4] d4O d4P [x0, x1] w R E := by kernel_rfl
theorem c7O {x0 x1 : Value} {w : World} {R : Value → World → Prop} {E : Pan} (h : b8O x0 x1 w R E) : Cv Tryd.prog 102 #[x0, x1] w R E := by
 refine f7 (args := [x0, x1]) (c := d4O) (h := d4P) (rs := [.tmp 4]) Tryd.func102 (by kernel_rfl) (by kernel_rfl) (Nat.le_of_ble_eq_true (by kernel_rfl)) (by kernel_rfl) (by kernel_rfl) (by kernel_rfl) ?_
 rw [← c7N]
 exact h
end Go.Proofs.YthldnpmfelniiaaDoor
