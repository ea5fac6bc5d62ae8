/- The second reading of some of the program's functions, printed by gen2.py off the code; each is held against the code by the kernel. -/
import Derived.Test.YthldnpmfelniiaaDoorProg
import Derived.Test.YthldnpmfelniiaaDoorzWK0
import Derived.KernelRfl
namespace Go.Proofs.YthldnpmfelniiaaDoor
open Go.RowKit
set_option maxRecDepth 100000
def h6 : Hint := (.seq .none (.seq (.seq .none (.cond (.seq .none .none) .none)) (.seq .none (.seq .none (.seq .none (.seq .none (.seq (.seq .none (.cond (.seq .none .none) .none)) (.seq (.seq .none (.cond (.seq .none .none) .none)) (.seq .none (.seq .none .none))))))))))
def c9h (w : World) (R : Value → World → Prop) (_E : Pan) : Prop :=
 ∀ _τ : Fr, (R (Value.bool true) w)
def d8c (x0 x1 x5 : Value) (w : World) (next2 : List Value → World → Prop) (j1 : List Value → World → Prop) (R : Value → World → Prop) (E : Pan) : Prop :=
 opK Tryd.prog E (xBuiltin .len #[47] 3 [false] [x0]) w fun a2O o2 =>
 opK Tryd.prog E (xBin .lss 3 (.tmp 11) (.tmp 13) x5 a2O) o2 fun b1Z o7 =>
 xcond b1Z
 (dX o7 fun a0b =>
 qP Tryd.prog (xV (Instr.indexAt 47 x0 x5)) fun b8k =>
 qP Tryd.prog (xV (Instr.indexAt 47 x1 x5)) fun b8l =>
 qL Tryd.prog a0b (blk b8k) (xV (Instr.loadAt 9 b8k)) fun c9i =>
 qL Tryd.prog a0b (blk b8l) (xV (Instr.loadAt 9 b8l)) fun c9j =>
 qP Tryd.prog (xBin .neq 9 (.tmp 20) (.tmp 24) c9i c9j) fun c9k =>
 xcond c9k
 (R (Value.bool false) a0b)
 (opK Tryd.prog E (xBin .add 3 (.tmp 15) (.const (Value.int .i64 1)) x5 (Value.int .i64 1)) a0b fun b8m p7 =>
 next2 [b8m] p7))
 (j1 [] o7)
def F29 (x0 x1 : Value) (w : World) (R : Value → World → Prop) (E : Pan) : Prop :=
 opK Tryd.prog E (xBuiltin .len #[47] 3 [false] [x0]) w fun b5y w_2 =>
 opK Tryd.prog E (xBuiltin .len #[47] 3 [false] [x1]) w_2 fun a5a w_4 =>
 opK Tryd.prog E (xBin .neq 3 (.tmp 7) (.tmp 9) b5y a5a) w_4 fun a2P w_6 =>
 xcond a2P
 (R (Value.bool false) w_6)
 (xcut (fun _ w_8 => c9h w_8 R E) fun j1 =>
 xloop [5] [(Value.int .i64 0)] w_6 fun τ_21 t1 next2 =>
 d8c x0 x1 (τ_21 5) t1 next2 j1 R E)
noncomputable def c29 : Code := Tryd.f29.body.getD .skip
def h29 : Hint := (.seq .none (.seq (.seq .none (.cond (.seq .none .none) .none)) (.cut [] (.seq .none (.block (.loop [5] (.seq (.seq .none (.cond .none .none)) (.seq (.block (.seq (.reg [(0, 131072, 1), (0, 262144, 32), (3, 524288, 393216), (4, 1048576, 524288), (0, 2097152, 2), (0, 4194304, 32), (48, 8388608, 6291456), (64, 16777216, 8388608), (136, 33554432, 17825792)] [136, 136, 136, 128, 136, 136, 136, 8, 136] (.early 0 (.early 1 (.early 2 (.early 4 (.early 5 (.early 6 (.load 3 (.load 7 (.early 8 .done)))))))))) (.cond (.seq .none .none) .none))) .none))))) (.seq .none .none))))
theorem g0p (x0 x1 : Value) (w : World) (R : Value → World → Prop) (E : Pan) : F29 x0 x1 w R E = callX Tryd.prog [.tmp 4] c29 h29 [x0, x1] w R E := by kernel_rfl
theorem g0q {x0 x1 : Value} {w : World} {R : Value → World → Prop} {E : Pan} (h : F29 x0 x1 w R E) : Cv Tryd.prog 29 #[x0, x1] w R E := by
 refine i6 (args := [x0, x1]) (c := c29) (h := h29) (rs := [.tmp 4]) Tryd.func29 (by kernel_rfl) (by kernel_rfl) (Nat.le_of_ble_eq_true (by kernel_rfl)) (by kernel_rfl) (by kernel_rfl) (by kernel_rfl) ?_
 rw [← g0p]
 exact h
def F37 (x0 : Value) (w : World) (R : Value → World → Prop) (E : Pan) : Prop :=
 opK Tryd.prog E (xV (Instr.box 25 x0)) w fun t7 w_2 =>
 opK Tryd.prog E (xV (Instr.fieldAt 25 t7 1)) w_2 fun T8 w_4 =>
 opK Tryd.prog E (xV (Instr.loadAt 23 T8)) w_4 fun a3k w_6 =>
 opK Tryd.prog E (xCall (Value.func (.func 74) #[] #[]) [(Value.slice none 0 0), a3k]) w_6 fun a5K w_8 =>
 R a5K w_8
noncomputable def c37 : Code := Tryd.f37.body.getD .skip
def h37 : Hint := (.seq .none (.seq .none .none))
theorem g0r (x0 : Value) (w : World) (R : Value → World → Prop) (E : Pan) : F37 x0 w R E = callX Tryd.prog [.tmp 2] c37 h37 [x0] w R E := by kernel_rfl
theorem g0s {x0 : Value} {w : World} {R : Value → World → Prop} {E : Pan} (h : F37 x0 w R E) : Cv Tryd.prog 37 #[x0] w R E := by
 refine i6 (args := [x0]) (c := c37) (h := h37) (rs := [.tmp 2]) Tryd.func37 (by kernel_rfl) (by kernel_rfl) (Nat.le_of_ble_eq_true (by kernel_rfl)) (by kernel_rfl) (by kernel_rfl) (by kernel_rfl) ?_
 rw [← g0r]
 exact h
def c9l (x0 : Value) (w : World) (R : Value → World → Prop) (_E : Pan) : Prop :=
 ∀ _τ : Fr, (R x0 w)
def c9m (x0 _x1 x5 : Value) (w : World) (next2 : List Value → World → Prop) (_R : Value → World → Prop) (E : Pan) : Prop :=
 ∀ _τ : Fr, (opK Tryd.prog E (xBin .add 3 (.tmp 13) (.const (Value.int .i64 1)) x5 (Value.int .i64 1)) w fun b1n w_8 =>
 next2 [x0, b1n] w_8)
def c9n (x0 _x1 _x5 x6 : Value) (w : World) (j3 : List Value → World → Prop) (_R : Value → World → Prop) (E : Pan) : Prop :=
 ∀ _τ : Fr, (opK Tryd.prog E (xV (Instr.fieldAt 88 x6 4)) w fun g0t p7 =>
 opK Tryd.prog E (xV (Instr.loadAt 23 g0t)) p7 fun g0u t1 =>
 opK Tryd.prog E (xCall (Value.func (.func 74) #[] #[]) [x0, g0u]) t1 fun g0v t8 =>
 opK Tryd.prog E (xV (Instr.fieldAt 88 x6 5)) t8 fun g0w v2 =>
 opK Tryd.prog E (xV (Instr.loadAt 23 g0w)) v2 fun g0x y7 =>
 opK Tryd.prog E (xCall (Value.func (.func 74) #[] #[]) [g0v, g0x]) y7 fun g0y A7 =>
 j3 [g0y] A7)
def d8d (x0 _x1 _x5 x6 x8 : Value) (w : World) (next7 : List Value → World → Prop) (j6 : List Value → World → Prop) (_R : Value → World → Prop) (E : Pan) : Prop :=
 opK Tryd.prog E (xV (Instr.fieldAt 88 x6 2)) w fun c8b A8 =>
 opK Tryd.prog E (xV (Instr.loadAt 28 c8b)) A8 fun c8c C9 =>
 opK Tryd.prog E (xBuiltin .len #[28] 3 [false] [c8c]) C9 fun c8d C0 =>
 opK Tryd.prog E (xBin .lss 3 (.tmp 50) (.tmp 53) x8 c8d) C0 fun b8c D3 =>
 xcond b8c
 (opK Tryd.prog E (xV (Instr.fieldAt 88 x6 2)) D3 fun g0z E9 =>
 opK Tryd.prog E (xV (Instr.loadAt 28 g0z)) E9 fun g0A E4 =>
 opK Tryd.prog E (xV (Instr.indexAt 28 g0A x8)) E4 fun g0B K8 =>
 opK Tryd.prog E (xV (Instr.loadAt 30 g0B)) K8 fun g0C J7 =>
 opK Tryd.prog E (xCall (Value.func (.func 102) #[] #[]) [x0, g0C]) J7 fun g0D G8 =>
 opK Tryd.prog E (xBin .add 3 (.tmp 55) (.const (Value.int .i64 1)) x8 (Value.int .i64 1)) G8 fun g0E K5 =>
 next7 [g0D, g0E] K5)
 (j6 [x0] D3)
def c9o (x0 x1 x5 x6 : Value) (w : World) (j3 : List Value → World → Prop) (R : Value → World → Prop) (E : Pan) : Prop :=
 ∀ _τ : Fr, (xcut (fun g0F A4 => c9n (nth g0F 0) x1 x5 x6 A4 j3 R E) fun j6 =>
 xloop [0, 8] [x0, (Value.int .i64 0)] w fun τ_53 M3 next7 =>
 d8d (τ_53 0) x1 x5 x6 (τ_53 8) M3 next7 j6 R E)
def d8e (x0 _x1 _x5 x6 x7 : Value) (w : World) (next8 : List Value → World → Prop) (j5 : List Value → World → Prop) (_R : Value → World → Prop) (E : Pan) : Prop :=
 opK Tryd.prog E (xV (Instr.fieldAt 88 x6 3)) w fun g0G M8 =>
 opK Tryd.prog E (xV (Instr.loadAt 31 g0G)) M8 fun g0H P8 =>
 opK Tryd.prog E (xBuiltin .len #[31] 3 [false] [g0H]) P8 fun g0I T9 =>
 opK Tryd.prog E (xBin .lss 3 (.tmp 36) (.tmp 39) x7 g0I) T9 fun g0J Q2 =>
 xcond g0J
 (opK Tryd.prog E (xV (Instr.fieldAt 88 x6 3)) Q2 fun g0K U0 =>
 opK Tryd.prog E (xV (Instr.loadAt 31 g0K)) U0 fun g0L a0d =>
 opK Tryd.prog E (xV (Instr.indexAt 31 g0L x7)) a0d fun c6V N1 =>
 opK Tryd.prog E (xV (Instr.loadAt 33 c6V)) N1 fun c6W W0 =>
 opK Tryd.prog E (xCall (Value.func (.func 101) #[] #[]) [x0, c6W]) W0 fun g0M a0e =>
 opK Tryd.prog E (xBin .add 3 (.tmp 41) (.const (Value.int .i64 1)) x7 (Value.int .i64 1)) a0e fun g0N Z7 =>
 next8 [g0M, g0N] Z7)
 (j5 [x0] Q2)
def c9p (x0 x1 x5 x6 : Value) (w : World) (j3 : List Value → World → Prop) (R : Value → World → Prop) (E : Pan) : Prop :=
 ∀ _τ : Fr, (xcut (fun h2X M7 => c9o (nth h2X 0) x1 x5 x6 M7 j3 R E) fun j5 =>
 xloop [0, 7] [x0, (Value.int .i64 0)] w fun τ_77 W8 next8 =>
 d8e (τ_77 0) x1 x5 x6 (τ_77 7) W8 next8 j5 R E)
def d8f (x0 x1 x5 : Value) (w : World) (next2 : List Value → World → Prop) (j1 : List Value → World → Prop) (R : Value → World → Prop) (E : Pan) : Prop :=
 opK Tryd.prog E (xBuiltin .len #[23] 3 [false] [x1]) w fun b1l w_4 =>
 opK Tryd.prog E (xBin .lss 3 (.tmp 9) (.tmp 11) x5 b1l) w_4 fun b1k w_6 =>
 xcond b1k
 (xcut (fun l_9 o2 => c9m (nth l_9 0) x1 x5 o2 next2 R E) fun j3 =>
 opK Tryd.prog E (xV (Instr.indexAt 23 x1 x5)) w_6 fun g0O o7 =>
 opK Tryd.prog E (xV (Instr.loadAt 88 g0O)) o7 fun a5v o8 =>
 opK Tryd.prog E (xV (Instr.alloc 88 true (.tuple #[]))) o8 fun b9b p9 =>
 opK Tryd.prog E (xU (Instr.storeAt 88 b9b a5v)) p9 fun _z_17 r5 =>
 xcut (fun a8M a2v => c9p (nth a8M 0) x1 x5 b9b a2v j3 R E) fun j4 =>
 opK Tryd.prog E (xV (Instr.fieldAt 88 b9b 0)) r5 fun g0P a2U =>
 opK Tryd.prog E (xV (Instr.loadAt 3 g0P)) a2U fun g0Q a3l =>
 opK Tryd.prog E (xBin .eql 3 (.tmp 20) (.const (Value.int .i64 1)) g0Q (Value.int .i64 1)) a3l fun c2m a3m =>
 opK Tryd.prog E (gsem (asB c2m) false (xV (Instr.fieldAt 88 b9b 0))) a3m fun g0R a2e =>
 opK Tryd.prog E (gsem (asB c2m) false (xV (Instr.loadAt 3 g0R))) a2e fun g0S a4B =>
 opK Tryd.prog E (gsem (asB c2m) false (xBin .eql 3 (.tmp 24) (.const (Value.int .i64 2)) g0S (Value.int .i64 2))) a4B fun g0T a4C =>
 opK Tryd.prog E (xPick c2m (Value.bool true) g0T) a4C fun g0U a4e =>
 xcond g0U
 (opK Tryd.prog E (xV (Instr.fieldAt 88 b9b 1)) a4e fun g0V a2V =>
 opK Tryd.prog E (xV (Instr.loadAt 9 g0V)) a2V fun g0W a4D =>
 opK Tryd.prog E (xV (Instr.fieldAt 88 b9b 0)) a4D fun g0X a2i =>
 opK Tryd.prog E (xV (Instr.loadAt 3 g0X)) a2i fun c4h a1G =>
 opK Tryd.prog E (xBin .eql 3 (.tmp 31) (.const (Value.int .i64 2)) c4h (Value.int .i64 2)) a1G fun e8u a3d =>
 opK Tryd.prog E (xV (Instr.build 71 #[(0, g0W), (1, e8u)])) a3d fun e8v a0Z =>
 opK Tryd.prog E (xV (Instr.buildSlice 68 1 #[(0, e8v)])) a0Z fun e8w a4Q =>
 opK Tryd.prog E (xBuiltin .append #[68, 68] 68 [false, false] [x0, e8w]) a4Q fun e8x a4p =>
 j4 [e8x] a4p)
 (j4 [x0] a4e))
 (j1 [x0] w_6)
def F74 (x0 x1 : Value) (w : World) (R : Value → World → Prop) (E : Pan) : Prop :=
 xcut (fun l_1 w_2 => c9l (nth l_1 0) w_2 R E) fun j1 =>
 xloop [0, 5] [x0, (Value.int .i64 0)] w fun τ_111 a4q next2 =>
 d8f (τ_111 0) x1 (τ_111 5) a4q next2 j1 R E
noncomputable def c74 : Code := Tryd.f74.body.getD .skip
def h74 : Hint := (.seq .none (.cut [0] (.seq .none (.block (.loop [0, 5] (.seq (.seq .none (.cond .none .none)) (.cut [0] (.block (.seq .none (.cut [0] (.seq .none (.cond .none .none)) (.cut [0] (.seq .none (.block (.loop [0, 7] (.seq (.seq .none (.cond .none .none)) (.seq (.block .none) .none))))) (.cut [0] (.seq .none (.block (.loop [0, 8] (.seq (.seq .none (.cond .none .none)) (.seq (.block .none) .none))))) (.seq .none .none)))))) .none))))) (.seq .none .none)))
theorem g0Y (x0 x1 : Value) (w : World) (R : Value → World → Prop) (E : Pan) : F74 x0 x1 w R E = callX Tryd.prog [.tmp 4] c74 h74 [x0, x1] w R E := by kernel_rfl
theorem g0Z {x0 x1 : Value} {w : World} {R : Value → World → Prop} {E : Pan} (h : F74 x0 x1 w R E) : Cv Tryd.prog 74 #[x0, x1] w R E := by
 refine i6 (args := [x0, x1]) (c := c74) (h := h74) (rs := [.tmp 4]) Tryd.func74 (by kernel_rfl) (by kernel_rfl) (Nat.le_of_ble_eq_true (by kernel_rfl)) (by kernel_rfl) (by kernel_rfl) (by kernel_rfl) ?_
 rw [← g0Y]
 exact h
def c4i (x0 : Value) (w : World) (R : Value → World → Prop) (_E : Pan) : Prop :=
 ∀ _τ : Fr, (R x0 w)
def d1m (x0 x3 x6 : Value) (w : World) (next3 : List Value → World → Prop) (j2 : List Value → World → Prop) (_R : Value → World → Prop) (E : Pan) : Prop :=
 opK Tryd.prog E (xV (Instr.fieldAt 33 x3 3)) w fun g8S w_6 =>
 opK Tryd.prog E (xV (Instr.loadAt 31 g8S)) w_6 fun g8T w_8 =>
 opK Tryd.prog E (xBuiltin .len #[31] 3 [false] [g8T]) w_8 fun g8U o2 =>
 opK Tryd.prog E (xBin .lss 3 (.tmp 21) (.tmp 24) x6 g8U) o2 fun g1a o7 =>
 xcond g1a
 (opK Tryd.prog E (xV (Instr.fieldAt 33 x3 3)) o7 fun g1b o8 =>
 opK Tryd.prog E (xV (Instr.loadAt 31 g1b)) o8 fun g1c p9 =>
 opK Tryd.prog E (xV (Instr.indexAt 31 g1c x6)) p9 fun g1d r5 =>
 opK Tryd.prog E (xV (Instr.loadAt 33 g1d)) r5 fun g1e p7 =>
 opK Tryd.prog E (xCall (Value.func (.func 101) #[] #[]) [x0, g1e]) p7 fun g1f t1 =>
 opK Tryd.prog E (xBin .add 3 (.tmp 26) (.const (Value.int .i64 1)) x6 (Value.int .i64 1)) t1 fun g1g t8 =>
 next3 [g1f, g1g] t8)
 (j2 [x0] o7)
def c4j (x0 x3 : Value) (w : World) (R : Value → World → Prop) (E : Pan) : Prop :=
 ∀ _τ : Fr, (xcut (fun l_3 w_4 => c4i (nth l_3 0) w_4 R E) fun j2 =>
 xloop [0, 6] [x0, (Value.int .i64 0)] w fun τ_25 v2 next3 =>
 d1m (τ_25 0) x3 (τ_25 6) v2 next3 j2 R E)
def d1n (x0 x3 x5 : Value) (w : World) (next4 : List Value → World → Prop) (j1 : List Value → World → Prop) (_R : Value → World → Prop) (E : Pan) : Prop :=
 opK Tryd.prog E (xV (Instr.fieldAt 33 x3 2)) w fun d5c A7 =>
 opK Tryd.prog E (xV (Instr.loadAt 28 d5c)) A7 fun c5m A4 =>
 opK Tryd.prog E (xBuiltin .len #[28] 3 [false] [c5m]) A4 fun c9q A8 =>
 opK Tryd.prog E (xBin .lss 3 (.tmp 7) (.tmp 10) x5 c9q) A8 fun g1h C9 =>
 xcond g1h
 (opK Tryd.prog E (xV (Instr.fieldAt 33 x3 2)) C9 fun g1i C0 =>
 opK Tryd.prog E (xV (Instr.loadAt 28 g1i)) C0 fun g1j D3 =>
 opK Tryd.prog E (xV (Instr.indexAt 28 g1j x5)) D3 fun g1k E9 =>
 opK Tryd.prog E (xV (Instr.loadAt 30 g1k)) E9 fun g1l E4 =>
 opK Tryd.prog E (xCall (Value.func (.func 102) #[] #[]) [x0, g1l]) E4 fun g1m K8 =>
 opK Tryd.prog E (xBin .add 3 (.tmp 12) (.const (Value.int .i64 1)) x5 (Value.int .i64 1)) K8 fun g1n J7 =>
 next4 [g1m, g1n] J7)
 (j1 [x0] C9)
def d5d (x0 x1 : Value) (w : World) (R : Value → World → Prop) (E : Pan) : Prop :=
 opK Tryd.prog E (xV (Instr.box 33 x1)) w fun a1U w_2 =>
 xcut (fun b9G y7 => c4j (nth b9G 0) a1U y7 R E) fun j1 =>
 xloop [0, 5] [x0, (Value.int .i64 0)] w_2 fun τ_49 G8 next4 =>
 d1n (τ_49 0) a1U (τ_49 5) G8 next4 j1 R E
noncomputable def g1o : Code := Tryd.f101.body.getD .skip
def g1p : Hint := (.seq .none (.cut [0] (.seq .none (.block (.loop [0, 5] (.seq (.seq .none (.cond .none .none)) (.seq (.block .none) .none))))) (.cut [0] (.seq .none (.block (.loop [0, 6] (.seq (.seq .none (.cond .none .none)) (.seq (.block .none) .none))))) (.seq .none .none))))
theorem e8y (x0 x1 : Value) (w : World) (R : Value → World → Prop) (E : Pan) : d5d x0 x1 w R E = callX Tryd.prog [.tmp 4] g1o g1p [x0, x1] w R E := by kernel_rfl
theorem e8z {x0 x1 : Value} {w : World} {R : Value → World → Prop} {E : Pan} (h : d5d x0 x1 w R E) : Cv Tryd.prog 101 #[x0, x1] w R E := by
 refine i6 (args := [x0, x1]) (c := g1o) (h := g1p) (rs := [.tmp 4]) Tryd.func101 (by kernel_rfl) (by kernel_rfl) (Nat.le_of_ble_eq_true (by kernel_rfl)) (by kernel_rfl) (by kernel_rfl) (by kernel_rfl) ?_
 rw [← e8y]
 exact h
def c4k (x0 : Value) (w : World) (R : Value → World → Prop) (_E : Pan) : Prop :=
 ∀ _τ : Fr, (R x0 w)
def d1o (x0 x3 x5 : Value) (w : World) (next3 : List Value → World → Prop) (j2 : List Value → World → Prop) (_R : Value → World → Prop) (E : Pan) : Prop :=
 opK Tryd.prog E (xV (Instr.fieldAt 30 x3 3)) w fun g8V w_6 =>
 opK Tryd.prog E (xV (Instr.loadAt 28 g8V)) w_6 fun g8W w_8 =>
 opK Tryd.prog E (xBuiltin .len #[28] 3 [false] [g8W]) w_8 fun g8X o2 =>
 opK Tryd.prog E (xBin .lss 3 (.tmp 23) (.tmp 26) x5 g8X) o2 fun g1q o7 =>
 xcond g1q
 (opK Tryd.prog E (xV (Instr.fieldAt 30 x3 3)) o7 fun c8l o8 =>
 opK Tryd.prog E (xV (Instr.loadAt 28 c8l)) o8 fun c8m p9 =>
 opK Tryd.prog E (xV (Instr.indexAt 28 c8m x5)) p9 fun g1r r5 =>
 opK Tryd.prog E (xV (Instr.loadAt 30 g1r)) r5 fun g1s p7 =>
 opK Tryd.prog E (xCall (Value.func (.func 102) #[] #[]) [x0, g1s]) p7 fun g1t t1 =>
 opK Tryd.prog E (xBin .add 3 (.tmp 28) (.const (Value.int .i64 1)) x5 (Value.int .i64 1)) t1 fun c9r t8 =>
 next3 [g1t, c9r] t8)
 (j2 [x0] o7)
def c4l (x0 x3 : Value) (w : World) (R : Value → World → Prop) (E : Pan) : Prop :=
 ∀ _τ : Fr, (xcut (fun l_3 w_4 => c4k (nth l_3 0) w_4 R E) fun j2 =>
 xloop [0, 5] [x0, (Value.int .i64 0)] w fun τ_25 v2 next3 =>
 d1o (τ_25 0) x3 (τ_25 5) v2 next3 j2 R E)
def d5e (x0 x1 : Value) (w : World) (R : Value → World → Prop) (E : Pan) : Prop :=
 opK Tryd.prog E (xV (Instr.box 30 x1)) w fun a1U w_2 =>
 xcut (fun b9G y7 => c4l (nth b9G 0) a1U y7 R E) fun j1 =>
 opK Tryd.prog E (xV (Instr.fieldAt 30 a1U 0)) w_2 fun d5f A7 =>
 opK Tryd.prog E (xV (Instr.loadAt 3 d5f)) A7 fun c5n A4 =>
 opK Tryd.prog E (xBin .eql 3 (.tmp 7) (.const (Value.int .i64 2)) c5n (Value.int .i64 2)) A4 fun c5o A8 =>
 opK Tryd.prog E (gsem (asB c5o) false (xV (Instr.fieldAt 30 a1U 0))) A8 fun g1u C9 =>
 opK Tryd.prog E (gsem (asB c5o) false (xV (Instr.loadAt 3 g1u))) C9 fun g1v C0 =>
 opK Tryd.prog E (gsem (asB c5o) false (xBin .eql 3 (.tmp 11) (.const (Value.int .i64 4)) g1v (Value.int .i64 4))) C0 fun g1w D3 =>
 opK Tryd.prog E (xPick c5o (Value.bool true) g1w) D3 fun g1x E9 =>
 xcond g1x
 (opK Tryd.prog E (xV (Instr.fieldAt 30 a1U 2)) E9 fun c1t E4 =>
 opK Tryd.prog E (xV (Instr.loadAt 9 c1t)) E4 fun b4C K8 =>
 opK Tryd.prog E (xV (Instr.fieldAt 30 a1U 0)) K8 fun c1u J7 =>
 opK Tryd.prog E (xV (Instr.loadAt 3 c1u)) J7 fun b4D G8 =>
 opK Tryd.prog E (xBin .eql 3 (.tmp 18) (.const (Value.int .i64 4)) b4D (Value.int .i64 4)) G8 fun b4t K5 =>
 opK Tryd.prog E (xV (Instr.build 71 #[(0, b4C), (1, b4t)])) K5 fun b4u M3 =>
 opK Tryd.prog E (xV (Instr.buildSlice 68 1 #[(0, b4u)])) M3 fun b4v M7 =>
 opK Tryd.prog E (xBuiltin .append #[68, 68] 68 [false, false] [x0, b4v]) M7 fun b4w M8 =>
 j1 [b4w] M8)
 (j1 [x0] E9)
noncomputable def g1y : Code := Tryd.f102.body.getD .skip
def g1z : Hint := (.seq .none (.cut [0] (.seq .none (.cond .none .none)) (.cut [0] (.seq .none (.block (.loop [0, 5] (.seq (.seq .none (.cond .none .none)) (.seq (.block .none) .none))))) (.seq .none .none))))
theorem e8A (x0 x1 : Value) (w : World) (R : Value → World → Prop) (E : Pan) : d5e x0 x1 w R E = callX Tryd.prog [.tmp 4] g1y g1z [x0, x1] w R E := by kernel_rfl
theorem e8B {x0 x1 : Value} {w : World} {R : Value → World → Prop} {E : Pan} (h : d5e x0 x1 w R E) : Cv Tryd.prog 102 #[x0, x1] w R E := by
 refine i6 (args := [x0, x1]) (c := g1y) (h := g1z) (rs := [.tmp 4]) Tryd.func102 (by kernel_rfl) (by kernel_rfl) (Nat.le_of_ble_eq_true (by kernel_rfl)) (by kernel_rfl) (by kernel_rfl) (by kernel_rfl) ?_
 rw [← e8A]
 exact h
end Go.Proofs.YthldnpmfelniiaaDoor
