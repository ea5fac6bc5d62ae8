/- The second reading of some of the program's functions, printed by gen2.py off the code; each is held against the code by the kernel. -/
import Derived.Test.YthldnpmfelniiaaDoorProg
import Derived.Test.YthldnpmfelniiaaDoorzDK0
import Derived.KernelRfl
namespace Go.Proofs.YthldnpmfelniiaaDoor
open Go.RowKit
set_option maxRecDepth 100000
def h5 : Hint := (.seq .none (.seq (.seq .none (.cond (.seq .none .none) .none)) (.seq .none .none)))
def F11 (x0 x1 : Value) (w : World) (R : Value → World → Prop) (E : Pan) : Prop :=
 opK Tryd.prog E (xV (Instr.box 25 x0)) w fun J5 w_2 =>
 opK Tryd.prog E (xV (Instr.box 25 x1)) w_2 fun B9 w_4 =>
 opK Tryd.prog E (xCall (Value.func (.func 21) #[] #[]) []) w_4 fun a7Z w_6 =>
 opK Tryd.prog E (xV (Op.unary .not a7Z)) w_6 fun c6W w_8 =>
 xcond c6W
 (R (Value.bool false) w_8)
 (opK Tryd.prog E (xV (Instr.loadAt 25 J5)) w_8 fun c4D k9 =>
 opK Tryd.prog E (xCall (Value.func (.func 31) #[] #[]) [c4D]) k9 fun a4C k6 =>
 opK Tryd.prog E (xV (Instr.extract a4C 0)) k6 fun c1j o2 =>
 opK Tryd.prog E (xV (Instr.extract a4C 1)) o2 fun c1k p5 =>
 opK Tryd.prog E (xV (Instr.loadAt 25 B9)) p5 fun c1l p9 =>
 opK Tryd.prog E (xCall (Value.func (.func 31) #[] #[]) [c1l]) p9 fun c9S o9 =>
 opK Tryd.prog E (xV (Instr.extract c9S 0)) o9 fun a8G r7 =>
 opK Tryd.prog E (xV (Instr.extract c9S 1)) r7 fun a8H p8 =>
 opK Tryd.prog E (xV (Instr.loadAt 25 J5)) p8 fun e6D u4 =>
 opK Tryd.prog E (xCall (Value.func (.func 33) #[] #[]) [e6D]) u4 fun b7u u7 =>
 opK Tryd.prog E (xV (Instr.extract b7u 0)) u7 fun a6b o5 =>
 opK Tryd.prog E (xV (Instr.extract b7u 1)) o5 fun _t30_31 y8 =>
 opK Tryd.prog E (xV (Instr.loadAt 25 B9)) y8 fun b3C v2 =>
 opK Tryd.prog E (xCall (Value.func (.func 33) #[] #[]) [b3C]) v2 fun b7v A7 =>
 opK Tryd.prog E (xV (Instr.extract b7v 0)) A7 fun c2S A9 =>
 opK Tryd.prog E (xV (Instr.extract b7v 1)) A9 fun _t35_39 C7 =>
 opK Tryd.prog E (xV (Instr.loadAt 25 J5)) C7 fun e6E I9 =>
 opK Tryd.prog E (xV (Instr.loadAt 25 B9)) I9 fun e6F I0 =>
 opK Tryd.prog E (xCall (Value.func (.func 16) #[] #[]) [e6E, e6F]) I0 fun b1s K3 =>
 opK Tryd.prog E (xBin .neq 34 (.tmp 39) (.const (Value.int .i64 0)) c1k (Value.int .i64 0)) K3 fun c2T J6 =>
 opK Tryd.prog E (gsem (asB c2T) false (xBin .neq 34 (.tmp 42) (.const (Value.int .i64 0)) (gval (asB c2T) false a8H) (Value.int .i64 0))) J6 fun e6G J7 =>
 opK Tryd.prog E (xPick c2T (Value.bool true) e6G) J7 fun e6H N4 =>
 xcond e6H
 (opK Tryd.prog E (xV (Instr.loadAt 25 J5)) N4 fun e6I N9 =>
 opK Tryd.prog E (xV (Instr.loadAt 25 B9)) N9 fun e6J R5 =>
 opK Tryd.prog E (xCall (Value.func (.func 43) #[] #[]) [e6I, e6J]) R5 fun e6K O0 =>
 opK Tryd.prog E (xV (Op.unary .not e6K)) O0 fun e6L T2 =>
 R e6L T2)
 (opK Tryd.prog E (gsem (asB b1s) true (xCall (Value.func (.func 35) #[] #[]) [(gval (asB b1s) true c1j), (gval (asB b1s) true a8G)])) N4 fun e6M X7 =>
 opK Tryd.prog E (gsem (asB b1s) true (xV (Op.unary .not e6M))) X7 fun e6N R2 =>
 opK Tryd.prog E (xPick b1s e6N (Value.bool false)) R2 fun e6O U8 =>
 xcond e6O
 (R (Value.bool false) U8)
 (opK Tryd.prog E (xV (Instr.loadAt 25 J5)) U8 fun e6P X8 =>
 opK Tryd.prog E (xV (Instr.loadAt 25 B9)) X8 fun e6Q W5 =>
 opK Tryd.prog E (xCall (Value.func (.func 43) #[] #[]) [e6P, e6Q]) W5 fun e6R Z5 =>
 opK Tryd.prog E (xV (Op.unary .not b1s)) Z5 fun b7w a0Z =>
 opK Tryd.prog E (gsem (asB b7w) true (xBin .eql 41 (.tmp 62) (.tmp 63) (gval (asB b7w) true a6b) (gval (asB b7w) true c2S))) a0Z fun e6S a1b =>
 opK Tryd.prog E (xPick b7w e6S (Value.bool false)) a1b fun e6T a1l =>
 opK Tryd.prog E (xBin .eql 4 (.tmp 58) (.tmp 65) e6R e6T) a1l fun e6U a0O =>
 R e6U a0O)))
noncomputable def c11 : Code := Tryd.f11.body.getD .skip
def h11 : Hint := (.seq .none (.seq (.seq .none (.cond (.seq .none .none) .none)) (.seq .none (.seq .none (.seq .none (.seq .none (.seq .none (.seq (.seq .none (.cond (.seq .none .none) .none)) (.seq (.seq .none (.cond (.seq .none .none) .none)) (.seq .none .none))))))))))
theorem e6V (x0 x1 : Value) (w : World) (R : Value → World → Prop) (E : Pan) : F11 x0 x1 w R E = callX Tryd.prog [.tmp 4] c11 h11 [x0, x1] w R E := by kernel_rfl
theorem e6W {x0 x1 : Value} {w : World} {R : Value → World → Prop} {E : Pan} (h : F11 x0 x1 w R E) : Cv Tryd.prog 11 #[x0, x1] w R E := by
 refine g7 (args := [x0, x1]) (c := c11) (h := h11) (rs := [.tmp 4]) Tryd.func11 (by kernel_rfl) (by kernel_rfl) (Nat.le_of_ble_eq_true (by kernel_rfl)) (by kernel_rfl) (by kernel_rfl) (by kernel_rfl) ?_
 rw [← e6V]
 exact h
def F21 (w : World) (R : Value → World → Prop) (E : Pan) : Prop :=
 opK Tryd.prog E (xV (Instr.build 67 #[(0, (Value.string ⟨#[120]⟩))])) w fun a2Y w_2 =>
 opK Tryd.prog E (xV (Instr.buildSlice 22 1 #[(0, a2Y)])) w_2 fun b7R w_4 =>
 opK Tryd.prog E (xV (Instr.build 25 #[(0, b7R)])) w_4 fun a5W w_6 =>
 opK Tryd.prog E (xCall (Value.func (.func 31) #[] #[]) [a5W]) w_6 fun a4Q w_8 =>
 opK Tryd.prog E (xV (Instr.extract a4Q 0)) w_8 fun a4t k9 =>
 opK Tryd.prog E (xV (Instr.extract a4Q 1)) k9 fun a9S k6 =>
 opK Tryd.prog E (xBin .eql 34 (.tmp 10) (.const (Value.int .i64 0)) a9S (Value.int .i64 0)) k6 fun a0N o2 =>
 opK Tryd.prog E (gsem (asB a0N) true (xBuiltin .len #[40] 3 [false] [(gval (asB a0N) true a4t)])) o2 fun c0N p5 =>
 opK Tryd.prog E (gsem (asB a0N) true (xBin .eql 3 (.tmp 14) (.const (Value.int .i64 16)) c0N (Value.int .i64 16))) p5 fun e6X p9 =>
 opK Tryd.prog E (xPick a0N e6X (Value.bool false)) p9 fun b4u o9 =>
 opK Tryd.prog E (gsem (asB b4u) true (xV (Instr.indexAt 40 (gval (asB b4u) true a4t) (Value.int .i64 0)))) o9 fun a6f r7 =>
 opK Tryd.prog E (gsem (asB b4u) true (xV (Instr.loadAt 5 a6f))) r7 fun a6g p8 =>
 opK Tryd.prog E (gsem (asB b4u) true (xBin .eql 5 (.tmp 20) (.const (Value.int .u8 68)) a6g (Value.int .u8 68))) p8 fun c0R u4 =>
 opK Tryd.prog E (xPick b4u c0R (Value.bool false)) u4 fun a8T u7 =>
 opK Tryd.prog E (gsem (asB a8T) true (xV (Instr.buildSlice 40 1 #[(0, (Value.int .u8 97))]))) u7 fun c2U o5 =>
 opK Tryd.prog E (gsem (asB a8T) true (xV (convert 40 40 c2U))) o5 fun c2V y8 =>
 opK Tryd.prog E (gsem (asB a8T) true (xCall (Value.func (.func 22) #[] #[]) [c2V])) y8 fun c2W v2 =>
 opK Tryd.prog E (gsem (asB a8T) true (xBin .eql 41 (.tmp 26) (.const (Value.int .u64 12638187200555641996)) c2W (Value.int .u64 12638187200555641996))) v2 fun c2X A7 =>
 opK Tryd.prog E (xPick a8T c2X (Value.bool false)) A7 fun c2Y A9 =>
 R c2Y A9
noncomputable def c21 : Code := Tryd.f21.body.getD .skip
def h21 : Hint := (.seq .none (.seq .none (.seq .none .none)))
theorem e6Y (w : World) (R : Value → World → Prop) (E : Pan) : F21  w R E = callX Tryd.prog [.tmp 0] c21 h21 [] w R E := by kernel_rfl
theorem e6Z {w : World} {R : Value → World → Prop} {E : Pan} (h : F21  w R E) : Cv Tryd.prog 21 #[] w R E := by
 refine g7 (args := []) (c := c21) (h := h21) (rs := [.tmp 0]) Tryd.func21 (by kernel_rfl) (by kernel_rfl) (Nat.zero_le _) (by kernel_rfl) (by kernel_rfl) (by kernel_rfl) ?_
 rw [← e6Y]
 exact h
def c2Z (x3 : Value) (w : World) (R : Value → World → Prop) (_E : Pan) : Prop :=
 ∀ _τ : Fr, (R x3 w)
def c9T (x3 x6 x7 x8 : Value) (w : World) (next2 : List Value → World → Prop) (j1 : List Value → World → Prop) (_R : Value → World → Prop) (E : Pan) : Prop :=
 opK Tryd.prog E (xBin .lss 3 (.tmp 8) (.tmp 7) x8 x7) w fun c1n w_6 =>
 xcond c1n
 (opK Tryd.prog E (xV (Instr.indexAt 40 x6 x8)) w_6 fun f0L w_8 =>
 opK Tryd.prog E (xV (Instr.loadAt 5 f0L)) w_8 fun c4Q k9 =>
 opK Tryd.prog E (xV (convert 5 41 c4Q)) k9 fun b3t k6 =>
 opK Tryd.prog E (xBin .xor 41 (.tmp 12) (.tmp 14) x3 b3t) k6 fun a3z o2 =>
 opK Tryd.prog E (xBin .mul 41 (.tmp 15) (.const (Value.int .u64 1099511628211)) a3z (Value.int .u64 1099511628211)) o2 fun a3A p5 =>
 opK Tryd.prog E (xBin .add 3 (.tmp 8) (.const (Value.int .i64 1)) x8 (Value.int .i64 1)) p5 fun a3X p9 =>
 next2 [a3A, a3X] p9)
 (j1 [x3] w_6)
def F22 (x0 : Value) (w : World) (R : Value → World → Prop) (E : Pan) : Prop :=
 xcut (fun l_1 w_2 => c2Z (nth l_1 0) w_2 R E) fun j1 =>
 opK Tryd.prog E (xBuiltin .len #[40] 3 [false] [x0]) w fun a6T w_4 =>
 xloop [3, 8] [(Value.int .u64 14695981039346656037), (Value.int .i64 0)] w_4 fun τ_19 o9 next2 =>
 c9T (τ_19 3) x0 a6T (τ_19 8) o9 next2 j1 R E
noncomputable def c22 : Code := Tryd.f22.body.getD .skip
def h22 : Hint := (.seq .none (.seq .none (.cut [3] (.seq .none (.block (.loop [3, 8] (.seq .none (.seq (.cond .none .none) (.seq (.block (.seq .none .none)) .none)))))) (.seq .none .none))))
theorem e7a (x0 : Value) (w : World) (R : Value → World → Prop) (E : Pan) : F22 x0 w R E = callX Tryd.prog [.tmp 2] c22 h22 [x0] w R E := by kernel_rfl
theorem e7b {x0 : Value} {w : World} {R : Value → World → Prop} {E : Pan} (h : F22 x0 w R E) : Cv Tryd.prog 22 #[x0] w R E := by
 refine g7 (args := [x0]) (c := c22) (h := h22) (rs := [.tmp 2]) Tryd.func22 (by kernel_rfl) (by kernel_rfl) (Nat.le_of_ble_eq_true (by kernel_rfl)) (by kernel_rfl) (by kernel_rfl) (by kernel_rfl) ?_
 rw [← e7a]
 exact h
def c3a (x1 x5 x9 : Value) (w : World) (R : Value → World → Prop) (E : Pan) : Prop :=
 ∀ _τ : Fr, (opK Tryd.prog E (xV (Instr.loadAt 116 x9)) w fun e7c A7 =>
 opK Tryd.prog E (xV (Instr.fieldAt 25 x1 1)) A7 fun e7d A9 =>
 opK Tryd.prog E (xV (Instr.loadAt 23 e7d)) A9 fun e7e C7 =>
 opK Tryd.prog E (xCall e7c [e7e]) C7 fun _t39_41 I9 =>
 opK Tryd.prog E (xV (Instr.loadAt 40 x5)) I9 fun e7f I0 =>
 R (Value.tuple #[e7f, (Value.int .i64 0)]) I0)
def c9U (_x1 _x5 x6 _x9 x22 x23 x24 : Value) (w : World) (next2 : List Value → World → Prop) (j1 : List Value → World → Prop) (_R : Value → World → Prop) (E : Pan) : Prop :=
 opK Tryd.prog E (xBin .lss 3 (.tmp 24) (.tmp 23) x24 x23) w fun e7g N9 =>
 xcond e7g
 (opK Tryd.prog E (xV (Instr.indexAt 22 x22 x24)) N9 fun e7h R5 =>
 opK Tryd.prog E (xV (Instr.loadAt 67 e7h)) R5 fun e7i O0 =>
 opK Tryd.prog E (xV (Instr.alloc 67 true (.tuple #[]))) O0 fun c3b T2 =>
 opK Tryd.prog E (xU (Instr.storeAt 67 c3b e7i)) T2 fun _z_61 X7 =>
 opK Tryd.prog E (xV (Instr.loadAt 115 x6)) X7 fun c0t R2 =>
 opK Tryd.prog E (xV (Instr.fieldAt 67 c3b 1)) R2 fun e7j U8 =>
 opK Tryd.prog E (xV (Instr.loadAt 3 e7j)) U8 fun e7k X8 =>
 opK Tryd.prog E (xV (Instr.fieldAt 67 c3b 0)) X8 fun e7l W5 =>
 opK Tryd.prog E (xV (Instr.loadAt 9 e7l)) W5 fun e7m Z5 =>
 opK Tryd.prog E (xV (Instr.build 114 #[])) Z5 fun e7n a0Z =>
 opK Tryd.prog E (xCall c0t [(Value.int .u8 68), (Value.int .i64 0), e7k, e7m, e7n]) a0Z fun _t34_75 a1b =>
 opK Tryd.prog E (xBin .add 3 (.tmp 24) (.const (Value.int .i64 1)) x24 (Value.int .i64 1)) a1b fun e7o a1l =>
 next2 [e7o] a1l)
 (j1 [] N9)
def F31 (x0 : Value) (w : World) (R : Value → World → Prop) (E : Pan) : Prop :=
 opK Tryd.prog E (xV (Instr.box 25 x0)) w fun A5 w_2 =>
 opK Tryd.prog E (xV (Instr.loadAt 25 A5)) w_2 fun c4U w_4 =>
 opK Tryd.prog E (xCall (Value.func (.func 27) #[] #[]) [c4U]) w_4 fun b9o w_6 =>
 opK Tryd.prog E (xBin .neq 34 (.tmp 14) (.const (Value.int .i64 0)) b9o (Value.int .i64 0)) w_6 fun c6W w_8 =>
 xcond c6W
 (R (Value.tuple #[(Value.slice none 0 0), b9o]) w_8)
 (opK Tryd.prog E (xV (Instr.alloc 40 true (.tuple #[]))) w_8 fun d3g k9 =>
 opK Tryd.prog E (xV (Instr.makeFunc (.func 68) #[] #[d3g])) k9 fun c3c k6 =>
 opK Tryd.prog E (xV (Instr.alloc 115 true (.tuple #[]))) k6 fun b7x o2 =>
 opK Tryd.prog E (xU (Instr.storeAt 115 b7x c3c)) o2 fun _z_15 p5 =>
 opK Tryd.prog E (xV (Instr.alloc 103 true (.tuple #[]))) p5 fun b9u p9 =>
 opK Tryd.prog E (xV (Instr.makeFunc (.func 69) #[] #[b7x, b9u])) p9 fun a3Y o9 =>
 opK Tryd.prog E (xU (Instr.storeAt 103 b9u a3Y)) o9 fun _z_21 r7 =>
 opK Tryd.prog E (xV (Instr.alloc 108 true (.tuple #[]))) r7 fun c6X p8 =>
 opK Tryd.prog E (xV (Instr.makeFunc (.func 70) #[] #[b7x, b9u, c6X])) p8 fun e7p u4 =>
 opK Tryd.prog E (xU (Instr.storeAt 108 c6X e7p)) u4 fun _z_27 u7 =>
 opK Tryd.prog E (xV (Instr.alloc 116 true (.tuple #[]))) u7 fun b9v o5 =>
 opK Tryd.prog E (xV (Instr.makeFunc (.func 71) #[] #[b7x, c6X, b9u, b9v])) o5 fun a3V y8 =>
 opK Tryd.prog E (xU (Instr.storeAt 116 b9v a3V)) y8 fun _z_33 v2 =>
 xcut (fun _ K3 => c3a A5 d3g b9v K3 R E) fun j1 =>
 opK Tryd.prog E (xV (Instr.fieldAt 25 A5 0)) v2 fun e7q J6 =>
 opK Tryd.prog E (xV (Instr.loadAt 22 e7q)) J6 fun c9V J7 =>
 opK Tryd.prog E (xBuiltin .len #[22] 3 [false] [c9V]) J7 fun e7r N4 =>
 xloop [24] [(Value.int .i64 0)] N4 fun τ_79 a0O next2 =>
 c9U A5 d3g b7x b9v c9V e7r (τ_79 24) a0O next2 j1 R E)
noncomputable def c31 : Code := Tryd.f31.body.getD .skip
def h31 : Hint := (.seq .none (.seq (.seq .none (.seq .none (.cond (.seq .none .none) .none))) (.seq .none (.seq .none (.seq .none (.seq .none (.seq .none (.seq .none (.seq .none (.seq .none (.cut [] (.seq .none (.block (.loop [24] (.seq .none (.seq (.cond .none .none) (.seq (.block (.seq .none .none)) .none)))))) (.seq .none (.seq .none .none)))))))))))))
theorem e7s (x0 : Value) (w : World) (R : Value → World → Prop) (E : Pan) : F31 x0 w R E = callX Tryd.prog [.tmp 2, .tmp 3] c31 h31 [x0] w R E := by kernel_rfl
theorem e7t {x0 : Value} {w : World} {R : Value → World → Prop} {E : Pan} (h : F31 x0 w R E) : Cv Tryd.prog 31 #[x0] w R E := by
 refine g7 (args := [x0]) (c := c31) (h := h31) (rs := [.tmp 2, .tmp 3]) Tryd.func31 (by kernel_rfl) (by kernel_rfl) (Nat.le_of_ble_eq_true (by kernel_rfl)) (by kernel_rfl) (by kernel_rfl) (by kernel_rfl) ?_
 rw [← e7s]
 exact h
def F33 (x0 : Value) (w : World) (R : Value → World → Prop) (E : Pan) : Prop :=
 opK Tryd.prog E (xV (Instr.box 25 x0)) w fun A5 w_2 =>
 opK Tryd.prog E (xV (Instr.loadAt 25 A5)) w_2 fun a6T w_4 =>
 opK Tryd.prog E (xCall (Value.func (.func 31) #[] #[]) [a6T]) w_4 fun c4P w_6 =>
 opK Tryd.prog E (xV (Instr.extract c4P 0)) w_6 fun d0R w_8 =>
 opK Tryd.prog E (xV (Instr.extract c4P 1)) w_8 fun b9k k9 =>
 opK Tryd.prog E (xBin .neq 34 (.tmp 11) (.const (Value.int .i64 0)) b9k (Value.int .i64 0)) k9 fun c0M k6 =>
 xcond c0M
 (R (Value.tuple #[(Value.int .u64 0), b9k]) k6)
 (opK Tryd.prog E (xCall (Value.func (.func 22) #[] #[]) [d0R]) k6 fun a3z o2 =>
 R (Value.tuple #[a3z, (Value.int .i64 0)]) o2)
noncomputable def c33 : Code := Tryd.f33.body.getD .skip
def h33 : Hint := (.seq .none (.seq .none (.seq (.seq .none (.cond (.seq .none .none) .none)) (.seq .none .none))))
theorem e7u (x0 : Value) (w : World) (R : Value → World → Prop) (E : Pan) : F33 x0 w R E = callX Tryd.prog [.tmp 2, .tmp 3] c33 h33 [x0] w R E := by kernel_rfl
theorem e7v {x0 : Value} {w : World} {R : Value → World → Prop} {E : Pan} (h : F33 x0 w R E) : Cv Tryd.prog 33 #[x0] w R E := by
 refine g7 (args := [x0]) (c := c33) (h := h33) (rs := [.tmp 2, .tmp 3]) Tryd.func33 (by kernel_rfl) (by kernel_rfl) (Nat.le_of_ble_eq_true (by kernel_rfl)) (by kernel_rfl) (by kernel_rfl) (by kernel_rfl) ?_
 rw [← e7u]
 exact h
def F35 (x0 x1 : Value) (w : World) (R : Value → World → Prop) (E : Pan) : Prop :=
 opK Tryd.prog E (xV (convert 40 9 x0)) w fun b0q w_2 =>
 opK Tryd.prog E (xV (convert 40 9 x1)) w_2 fun b3U w_4 =>
 opK Tryd.prog E (xBin .eql 9 (.tmp 6) (.tmp 8) b0q b3U) w_4 fun c1n w_6 =>
 R c1n w_6
noncomputable def c35 : Code := Tryd.f35.body.getD .skip
def h35 : Hint := (.seq .none (.seq .none .none))
theorem e7w (x0 x1 : Value) (w : World) (R : Value → World → Prop) (E : Pan) : F35 x0 x1 w R E = callX Tryd.prog [.tmp 4] c35 h35 [x0, x1] w R E := by kernel_rfl
theorem e7x {x0 x1 : Value} {w : World} {R : Value → World → Prop} {E : Pan} (h : F35 x0 x1 w R E) : Cv Tryd.prog 35 #[x0, x1] w R E := by
 refine g7 (args := [x0, x1]) (c := c35) (h := h35) (rs := [.tmp 4]) Tryd.func35 (by kernel_rfl) (by kernel_rfl) (Nat.le_of_ble_eq_true (by kernel_rfl)) (by kernel_rfl) (by kernel_rfl) (by kernel_rfl) ?_
 rw [← e7w]
 exact h
def F43 (x0 x1 : Value) (w : World) (R : Value → World → Prop) (E : Pan) : Prop :=
 opK Tryd.prog E (xV (Instr.box 25 x0)) w fun J5 w_2 =>
 opK Tryd.prog E (xV (Instr.box 25 x1)) w_2 fun B9 w_4 =>
 opK Tryd.prog E (xV (Instr.loadAt 25 J5)) w_4 fun a2h w_6 =>
 opK Tryd.prog E (xCall (Value.func (.func 33) #[] #[]) [a2h]) w_6 fun a7m w_8 =>
 opK Tryd.prog E (xV (Instr.extract a7m 0)) w_8 fun a7l k9 =>
 opK Tryd.prog E (xV (Instr.extract a7m 1)) k9 fun c3d k6 =>
 opK Tryd.prog E (xV (Instr.loadAt 25 B9)) k6 fun a3z o2 =>
 opK Tryd.prog E (xCall (Value.func (.func 33) #[] #[]) [a3z]) o2 fun a3A p5 =>
 opK Tryd.prog E (xV (Instr.extract a3A 0)) p5 fun a3X p9 =>
 opK Tryd.prog E (xV (Instr.extract a3A 1)) p9 fun a3Y o9 =>
 opK Tryd.prog E (xBin .eql 34 (.tmp 19) (.const (Value.int .i64 0)) c3d (Value.int .i64 0)) o9 fun a8R r7 =>
 opK Tryd.prog E (gsem (asB a8R) true (xBin .eql 34 (.tmp 22) (.const (Value.int .i64 0)) (gval (asB a8R) true a3Y) (Value.int .i64 0))) r7 fun c1i p8 =>
 opK Tryd.prog E (xPick a8R c1i (Value.bool false)) p8 fun b1h u4 =>
 opK Tryd.prog E (gsem (asB b1h) true (xBin .eql 41 (.tmp 26) (.tmp 27) (gval (asB b1h) true a7l) (gval (asB b1h) true a3X))) u4 fun b7u u7 =>
 opK Tryd.prog E (xPick b1h b7u (Value.bool false)) u7 fun a6b o5 =>
 opK Tryd.prog E (gsem (asB a6b) true (xV (Instr.loadAt 25 J5))) o5 fun e7y y8 =>
 opK Tryd.prog E (gsem (asB a6b) true (xV (Instr.loadAt 25 B9))) y8 fun b3C v2 =>
 opK Tryd.prog E (gsem (asB a6b) true (xCall (Value.func (.func 15) #[] #[]) [e7y, b3C])) v2 fun b7v A7 =>
 opK Tryd.prog E (gsem (asB a6b) true (xV (Op.unary .not b7v))) A7 fun c2S A9 =>
 opK Tryd.prog E (xPick a6b c2S (Value.bool false)) A9 fun e7z C7 =>
 R e7z C7
noncomputable def c43 : Code := Tryd.f43.body.getD .skip
def h43 : Hint := (.seq .none (.seq .none (.seq .none (.seq .none .none))))
theorem e7A (x0 x1 : Value) (w : World) (R : Value → World → Prop) (E : Pan) : F43 x0 x1 w R E = callX Tryd.prog [.tmp 4] c43 h43 [x0, x1] w R E := by kernel_rfl
theorem e7B {x0 x1 : Value} {w : World} {R : Value → World → Prop} {E : Pan} (h : F43 x0 x1 w R E) : Cv Tryd.prog 43 #[x0, x1] w R E := by
 refine g7 (args := [x0, x1]) (c := c43) (h := h43) (rs := [.tmp 4]) Tryd.func43 (by kernel_rfl) (by kernel_rfl) (Nat.le_of_ble_eq_true (by kernel_rfl)) (by kernel_rfl) (by kernel_rfl) (by kernel_rfl) ?_
 rw [← e7A]
 exact h
def c9W (x5 x39 x40 : Value) (w : World) (next2 : List Value → World → Prop) (R : Value → World → Prop) (E : Pan) : Prop :=
 opK Tryd.prog E (xBin .lss 3 (.tmp 40) (.const (Value.int .i64 4)) x40 (Value.int .i64 4)) w fun e7C u4 =>
 xcond e7C
 (opK Tryd.prog E (xV (Instr.index 114 x39 x40)) u4 fun e7D u7 =>
 opK Tryd.prog E (xV (Instr.loadAt 40 x5)) u7 fun e7E o5 =>
 opK Tryd.prog E (xV (convert 3 5 e7D)) o5 fun e7F y8 =>
 opK Tryd.prog E (xV (Instr.buildSlice 40 1 #[(0, e7F)])) y8 fun e7G v2 =>
 opK Tryd.prog E (xBuiltin .append #[40, 40] 40 [false, false] [e7E, e7G]) v2 fun e7H A7 =>
 opK Tryd.prog E (xU (Instr.storeAt 40 x5 e7H)) A7 fun _z_37 A9 =>
 opK Tryd.prog E (xBin .add 3 (.tmp 40) (.const (Value.int .i64 1)) x40 (Value.int .i64 1)) A9 fun e7I C7 =>
 next2 [e7I] C7)
 (R (Value.tuple #[]) u4)
def c3e (x3 x5 x10 : Value) (w : World) (R : Value → World → Prop) (E : Pan) : Prop :=
 ∀ _τ : Fr, (opK Tryd.prog E (xV (Instr.loadAt 40 x5)) w fun e7J o2 =>
 opK Tryd.prog E (xBuiltin .append #[40, 9] 40 [false, false] [e7J, x3]) o2 fun e7K p5 =>
 opK Tryd.prog E (xV (Instr.buildSlice 40 1 #[(0, (Value.int .u8 0))])) p5 fun e7L p9 =>
 opK Tryd.prog E (xBuiltin .append #[40, 40] 40 [false, false] [e7K, e7L]) p9 fun e7M o9 =>
 opK Tryd.prog E (xU (Instr.storeAt 40 x5 e7M)) o9 fun _z_21 r7 =>
 opK Tryd.prog E (xV (Instr.loadAt 114 x10)) r7 fun e7N p8 =>
 xloop [40] [(Value.int .i64 0)] p8 fun τ_41 I9 next2 =>
 c9W x5 e7N (τ_41 40) I9 next2 R E)
def c9X (x2 _x3 x5 _x10 x20 : Value) (w : World) (next3 : List Value → World → Prop) (j1 : List Value → World → Prop) (_R : Value → World → Prop) (E : Pan) : Prop :=
 opK Tryd.prog E (xBin .lss 3 (.tmp 20) (.const (Value.int .i64 8)) x20 (Value.int .i64 8)) w fun e7O K3 =>
 xcond e7O
 (dX K3 fun b3F =>
 qP Tryd.prog (xV (convert 2 41 x2)) fun e7P =>
 qP Tryd.prog (xBin .mul 3 (.const (Value.int .i64 8)) (.tmp 26) (Value.int .i64 8) x20) fun c1y =>
 qP Tryd.prog (xBin .sub 3 (.const (Value.int .i64 56)) (.tmp 27) (Value.int .i64 56) c1y) fun e7Q =>
 qP Tryd.prog (xBin .shr 41 (.tmp 25) (.tmp 28) e7P e7Q) fun c0p =>
 qP Tryd.prog (xV (convert 41 5 c0p)) fun e7R =>
 qL Tryd.prog b3F (blk x5) (xV (Instr.loadAt 40 x5)) fun e7S =>
 opK Tryd.prog E (xV (Instr.buildSlice 40 1 #[(0, e7R)])) b3F fun e7T b5B =>
 keepX [(blk x5)] b3F b5B (opK Tryd.prog E (xBuiltin .append #[40, 40] 40 [false, false] [e7S, e7T]) b5B fun e7U b0r =>
 keepX [] b5B b0r (opK Tryd.prog E (xU (Instr.storeAt 40 x5 e7U)) b0r fun _z_58 a7F =>
 keepX [] b0r a7F (opK Tryd.prog E (xBin .add 3 (.tmp 20) (.const (Value.int .i64 1)) x20 (Value.int .i64 1)) a7F fun e7V c4M =>
 next3 [e7V] c4M))))
 (j1 [] K3)
def F68 (x0 x1 x2 x3 x4 x5 : Value) (w : World) (R : Value → World → Prop) (E : Pan) : Prop :=
 opK Tryd.prog E (xV (Instr.box 114 x4)) w fun b9l w_2 =>
 opK Tryd.prog E (xV (Instr.loadAt 40 x5)) w_2 fun f0M w_4 =>
 opK Tryd.prog E (xV (convert 3 5 x1)) w_4 fun f0N w_6 =>
 opK Tryd.prog E (xV (Instr.buildSlice 40 2 #[(0, x0), (1, f0N)])) w_6 fun f0O w_8 =>
 opK Tryd.prog E (xBuiltin .append #[40, 40] 40 [false, false] [f0M, f0O]) w_8 fun f0P k9 =>
 opK Tryd.prog E (xU (Instr.storeAt 40 x5 f0P)) k9 fun _z_11 k6 =>
 xcut (fun _ I0 => c3e x3 x5 b9l I0 R E) fun j1 =>
 xloop [20] [(Value.int .i64 0)] k6 fun τ_62 d0O next3 =>
 c9X x2 x3 x5 b9l (τ_62 20) d0O next3 j1 R E
noncomputable def c68 : Code := Tryd.f68.body.getD .skip
def h68 : Hint := (.seq .none (.seq .none (.cut [] (.seq .none (.block (.loop [20] (.seq .none (.seq (.cond .none .none) (.seq (.block (.seq .none (.reg [(0, 8388608, 32), (0, 16777216, 4), (2, 33554432, 16777216), (0, 67108864, 2048), (8, 134217728, 67108864), (16, 268435456, 134217728), (36, 536870912, 301989888), (64, 1073741824, 536870912), (128, 2147483648, 1073741824), (257, 4294967296, 2155872256), (1023, 0, 4294967328)] [0, 1, 1, 1, 1, 1, 1, 1, 1, 0, 0] (.early 1 (.early 2 (.early 3 (.early 4 (.early 5 (.early 6 (.early 7 (.load 0 (.step 8 (.step 9 (.step 10 .done)))))))))))))) .none)))))) (.seq .none (.seq .none (.block (.loop [40] (.seq .none (.seq (.cond .none .none) (.seq (.block (.seq .none .none)) .none))))))))))
theorem e7W (x0 x1 x2 x3 x4 x5 : Value) (w : World) (R : Value → World → Prop) (E : Pan) : F68 x0 x1 x2 x3 x4 x5 w R E = callX Tryd.prog [] c68 h68 [x0, x1, x2, x3, x4, x5] w R E := by kernel_rfl
theorem e7X {x0 x1 x2 x3 x4 x5 : Value} {w : World} {R : Value → World → Prop} {E : Pan} (h : F68 x0 x1 x2 x3 x4 x5 w R E) : Cv Tryd.prog 68 #[x0, x1, x2, x3, x4, x5] w R E := by
 refine g7 (args := [x0, x1, x2, x3, x4, x5]) (c := c68) (h := h68) (rs := []) Tryd.func68 (by kernel_rfl) (by kernel_rfl) (Nat.le_of_ble_eq_true (by kernel_rfl)) (by kernel_rfl) (by kernel_rfl) (by kernel_rfl) ?_
 rw [← e7W]
 exact h
def c9Y (x2 x19 x20 x21 : Value) (w : World) (next1 : List Value → World → Prop) (R : Value → World → Prop) (E : Pan) : Prop :=
 opK Tryd.prog E (xBin .lss 3 (.tmp 21) (.tmp 20) x21 x20) w fun a1G v2 =>
 xcond a1G
 (opK Tryd.prog E (xV (Instr.indexAt 28 x19 x21)) v2 fun b3l A7 =>
 opK Tryd.prog E (xV (Instr.loadAt 30 b3l)) A7 fun a2g A9 =>
 opK Tryd.prog E (xV (Instr.alloc 30 true (.tuple #[]))) A9 fun d3O C7 =>
 opK Tryd.prog E (xU (Instr.storeAt 30 d3O a2g)) C7 fun _z_41 I9 =>
 opK Tryd.prog E (xV (Instr.loadAt 103 x2)) I9 fun c0m I0 =>
 opK Tryd.prog E (xV (Instr.loadAt 30 d3O)) I0 fun c0n K3 =>
 opK Tryd.prog E (xCall c0m [c0n]) K3 fun _t27_47 J6 =>
 opK Tryd.prog E (xBin .add 3 (.tmp 21) (.const (Value.int .i64 1)) x21 (Value.int .i64 1)) J6 fun c0o J7 =>
 next1 [c0o] J7)
 (R (Value.tuple #[]) v2)
def F69 (x0 x1 x2 : Value) (w : World) (R : Value → World → Prop) (E : Pan) : Prop :=
 opK Tryd.prog E (xV (Instr.box 30 x0)) w fun c3f w_2 =>
 opK Tryd.prog E (xV (Instr.loadAt 115 x1)) w_2 fun c1o w_4 =>
 opK Tryd.prog E (xV (Instr.fieldAt 30 c3f 0)) w_4 fun b5C w_6 =>
 opK Tryd.prog E (xV (Instr.loadAt 3 b5C)) w_6 fun a4V w_8 =>
 opK Tryd.prog E (xV (Instr.fieldAt 30 c3f 1)) w_8 fun b0t k9 =>
 opK Tryd.prog E (xV (Instr.loadAt 2 b0t)) k9 fun a8B k6 =>
 opK Tryd.prog E (xV (Instr.fieldAt 30 c3f 2)) k6 fun a0N o2 =>
 opK Tryd.prog E (xV (Instr.loadAt 9 a0N)) o2 fun a5U p5 =>
 opK Tryd.prog E (xV (Instr.fieldAt 30 c3f 3)) p5 fun a1h p9 =>
 opK Tryd.prog E (xV (Instr.loadAt 28 a1h)) p9 fun a8z o9 =>
 opK Tryd.prog E (xBuiltin .len #[28] 3 [false] [a8z]) o9 fun a5V r7 =>
 opK Tryd.prog E (xV (Instr.build 114 #[(0, (Value.int .i64 0)), (1, a5V)])) r7 fun a8A p8 =>
 opK Tryd.prog E (xCall c1o [(Value.int .u8 69), a4V, a8B, a5U, a8A]) p8 fun _t17_25 u4 =>
 opK Tryd.prog E (xV (Instr.fieldAt 30 c3f 3)) u4 fun a5Y u7 =>
 opK Tryd.prog E (xV (Instr.loadAt 28 a5Y)) u7 fun a4D o5 =>
 opK Tryd.prog E (xBuiltin .len #[28] 3 [false] [a4D]) o5 fun a3V y8 =>
 xloop [21] [(Value.int .i64 0)] y8 fun τ_51 N4 next1 =>
 c9Y x2 a4D a3V (τ_51 21) N4 next1 R E
noncomputable def c69 : Code := Tryd.f69.body.getD .skip
def h69 : Hint := (.seq .none (.seq .none (.seq .none (.block (.loop [21] (.seq .none (.seq (.cond .none .none) (.seq (.block (.seq .none .none)) .none))))))))
theorem e7Y (x0 x1 x2 : Value) (w : World) (R : Value → World → Prop) (E : Pan) : F69 x0 x1 x2 w R E = callX Tryd.prog [] c69 h69 [x0, x1, x2] w R E := by kernel_rfl
theorem e7Z {x0 x1 x2 : Value} {w : World} {R : Value → World → Prop} {E : Pan} (h : F69 x0 x1 x2 w R E) : Cv Tryd.prog 69 #[x0, x1, x2] w R E := by
 refine g7 (args := [x0, x1, x2]) (c := c69) (h := h69) (rs := []) Tryd.func69 (by kernel_rfl) (by kernel_rfl) (Nat.le_of_ble_eq_true (by kernel_rfl)) (by kernel_rfl) (by kernel_rfl) (by kernel_rfl) ?_
 rw [← e7Y]
 exact h
def c9Z (x3 x34 x35 x36 : Value) (w : World) (next2 : List Value → World → Prop) (R : Value → World → Prop) (E : Pan) : Prop :=
 opK Tryd.prog E (xBin .lss 3 (.tmp 36) (.tmp 35) x36 x35) w fun e8a A7 =>
 xcond e8a
 (opK Tryd.prog E (xV (Instr.indexAt 31 x34 x36)) A7 fun e8b A9 =>
 opK Tryd.prog E (xV (Instr.loadAt 33 e8b)) A9 fun e8c C7 =>
 opK Tryd.prog E (xV (Instr.alloc 33 true (.tuple #[]))) C7 fun d3P I9 =>
 opK Tryd.prog E (xU (Instr.storeAt 33 d3P e8c)) I9 fun _z_43 I0 =>
 opK Tryd.prog E (xV (Instr.loadAt 108 x3)) I0 fun e8d K3 =>
 opK Tryd.prog E (xV (Instr.loadAt 33 d3P)) K3 fun e8e J6 =>
 opK Tryd.prog E (xCall e8d [e8e]) J6 fun _t42_49 J7 =>
 opK Tryd.prog E (xBin .add 3 (.tmp 36) (.const (Value.int .i64 1)) x36 (Value.int .i64 1)) J7 fun e8f N4 =>
 next2 [e8f] N4)
 (R (Value.tuple #[]) A7)
def c3g (x3 x4 : Value) (w : World) (R : Value → World → Prop) (E : Pan) : Prop :=
 ∀ _τ : Fr, (opK Tryd.prog E (xV (Instr.fieldAt 33 x4 3)) w fun e8g o5 =>
 opK Tryd.prog E (xV (Instr.loadAt 31 e8g)) o5 fun d0a y8 =>
 opK Tryd.prog E (xBuiltin .len #[31] 3 [false] [d0a]) y8 fun e8h v2 =>
 xloop [36] [(Value.int .i64 0)] v2 fun τ_53 N9 next2 =>
 c9Z x3 d0a e8h (τ_53 36) N9 next2 R E)
def d0b (x2 _x3 _x4 x23 x24 x25 : Value) (w : World) (next3 : List Value → World → Prop) (j1 : List Value → World → Prop) (_R : Value → World → Prop) (E : Pan) : Prop :=
 opK Tryd.prog E (xBin .lss 3 (.tmp 25) (.tmp 24) x25 x24) w fun e8i R2 =>
 xcond e8i
 (opK Tryd.prog E (xV (Instr.indexAt 28 x23 x25)) R2 fun e8j U8 =>
 opK Tryd.prog E (xV (Instr.loadAt 30 e8j)) U8 fun e8k X8 =>
 opK Tryd.prog E (xV (Instr.alloc 30 true (.tuple #[]))) X8 fun d3Q W5 =>
 opK Tryd.prog E (xU (Instr.storeAt 30 d3Q e8k)) W5 fun _z_71 Z5 =>
 opK Tryd.prog E (xV (Instr.loadAt 103 x2)) Z5 fun e8l a0Z =>
 opK Tryd.prog E (xV (Instr.loadAt 30 d3Q)) a0Z fun e8m a1b =>
 opK Tryd.prog E (xCall e8l [e8m]) a1b fun _t31_77 a1l =>
 opK Tryd.prog E (xBin .add 3 (.tmp 25) (.const (Value.int .i64 1)) x25 (Value.int .i64 1)) a1l fun e8n a0O =>
 next3 [e8n] a0O)
 (j1 [] R2)
def F70 (x0 x1 x2 x3 : Value) (w : World) (R : Value → World → Prop) (E : Pan) : Prop :=
 opK Tryd.prog E (xV (Instr.box 33 x0)) w fun a2Y w_2 =>
 opK Tryd.prog E (xV (Instr.loadAt 115 x1)) w_2 fun a3U w_4 =>
 opK Tryd.prog E (xV (Instr.fieldAt 33 a2Y 0)) w_4 fun a2h w_6 =>
 opK Tryd.prog E (xV (Instr.loadAt 3 a2h)) w_6 fun a7m w_8 =>
 opK Tryd.prog E (xV (Instr.fieldAt 33 a2Y 1)) w_8 fun a7l k9 =>
 opK Tryd.prog E (xV (Instr.loadAt 3 a7l)) k9 fun c3d k6 =>
 opK Tryd.prog E (xV (Instr.fieldAt 33 a2Y 3)) k6 fun e8o o2 =>
 opK Tryd.prog E (xV (Instr.loadAt 31 e8o)) o2 fun e8p p5 =>
 opK Tryd.prog E (xBuiltin .len #[31] 3 [false] [e8p]) p5 fun c0O p9 =>
 opK Tryd.prog E (xV (Instr.fieldAt 33 a2Y 2)) p9 fun c0P o9 =>
 opK Tryd.prog E (xV (Instr.loadAt 28 c0P)) o9 fun e8q r7 =>
 opK Tryd.prog E (xBuiltin .len #[28] 3 [false] [e8q]) r7 fun c0Q p8 =>
 opK Tryd.prog E (xV (Instr.build 114 #[(0, c0O), (1, c0Q)])) p8 fun e8r u4 =>
 opK Tryd.prog E (xCall a3U [(Value.int .u8 67), a7m, c3d, (Value.string ⟨#[]⟩), e8r]) u4 fun _t21_27 u7 =>
 xcut (fun _ R5 => c3g x3 a2Y R5 R E) fun j1 =>
 opK Tryd.prog E (xV (Instr.fieldAt 33 a2Y 2)) u7 fun b1c O0 =>
 opK Tryd.prog E (xV (Instr.loadAt 28 b1c)) O0 fun a8P T2 =>
 opK Tryd.prog E (xBuiltin .len #[28] 3 [false] [a8P]) T2 fun b6U X7 =>
 xloop [25] [(Value.int .i64 0)] X7 fun τ_81 a2O next3 =>
 d0b x2 x3 a2Y a8P b6U (τ_81 25) a2O next3 j1 R E
noncomputable def c70 : Code := Tryd.f70.body.getD .skip
def h70 : Hint := (.seq .none (.seq .none (.cut [] (.seq .none (.block (.loop [25] (.seq .none (.seq (.cond .none .none) (.seq (.block (.seq .none .none)) .none)))))) (.seq .none (.block (.loop [36] (.seq .none (.seq (.cond .none .none) (.seq (.block (.seq .none .none)) .none)))))))))
theorem e8s (x0 x1 x2 x3 : Value) (w : World) (R : Value → World → Prop) (E : Pan) : F70 x0 x1 x2 x3 w R E = callX Tryd.prog [] c70 h70 [x0, x1, x2, x3] w R E := by kernel_rfl
theorem e8t {x0 x1 x2 x3 : Value} {w : World} {R : Value → World → Prop} {E : Pan} (h : F70 x0 x1 x2 x3 w R E) : Cv Tryd.prog 70 #[x0, x1, x2, x3] w R E := by
 refine g7 (args := [x0, x1, x2, x3]) (c := c70) (h := h70) (rs := []) Tryd.func70 (by kernel_rfl) (by kernel_rfl) (Nat.le_of_ble_eq_true (by kernel_rfl)) (by kernel_rfl) (by kernel_rfl) (by kernel_rfl) ?_
 rw [← e8s]
 exact h
def c3h (_x1 _x2 _x3 _x4 _x12 _x13 x14 : Value) (w : World) (next1 : List Value → World → Prop) (_R : Value → World → Prop) (E : Pan) : Prop :=
 ∀ _τ : Fr, (opK Tryd.prog E (xBin .add 3 (.tmp 14) (.const (Value.int .i64 1)) x14 (Value.int .i64 1)) w fun f0Q w_6 =>
 next1 [f0Q] w_6)
def c3i (_x1 _x2 _x3 x4 x7 _x12 _x13 _x14 : Value) (w : World) (j2 : List Value → World → Prop) (_R : Value → World → Prop) (E : Pan) : Prop :=
 ∀ _τ : Fr, (opK Tryd.prog E (xV (Instr.loadAt 116 x4)) w fun e8u R5 =>
 opK Tryd.prog E (xV (Instr.fieldAt 88 x7 4)) R5 fun e8v O0 =>
 opK Tryd.prog E (xV (Instr.loadAt 23 e8v)) O0 fun e8w T2 =>
 opK Tryd.prog E (xCall e8u [e8w]) T2 fun _t62_61 X7 =>
 opK Tryd.prog E (xV (Instr.loadAt 116 x4)) X7 fun e8x R2 =>
 opK Tryd.prog E (xV (Instr.fieldAt 88 x7 5)) R2 fun e8y U8 =>
 opK Tryd.prog E (xV (Instr.loadAt 23 e8y)) U8 fun e8z X8 =>
 opK Tryd.prog E (xCall e8x [e8z]) X8 fun _t66_69 W5 =>
 j2 [] W5)
def d0c (_x1 _x2 x3 _x4 _x7 _x12 _x13 _x14 x49 x50 x51 : Value) (w : World) (next5 : List Value → World → Prop) (j4 : List Value → World → Prop) (_R : Value → World → Prop) (E : Pan) : Prop :=
 opK Tryd.prog E (xBin .lss 3 (.tmp 51) (.tmp 50) x51 x50) w fun e8A a0O =>
 xcond e8A
 (opK Tryd.prog E (xV (Instr.indexAt 28 x49 x51)) a0O fun e8B a2O =>
 opK Tryd.prog E (xV (Instr.loadAt 30 e8B)) a2O fun e8C a3G =>
 opK Tryd.prog E (xV (Instr.alloc 30 true (.tuple #[]))) a3G fun d0d a4u =>
 opK Tryd.prog E (xU (Instr.storeAt 30 d0d e8C)) a4u fun _z_87 a3H =>
 opK Tryd.prog E (xV (Instr.loadAt 103 x3)) a3H fun e8D a4S =>
 opK Tryd.prog E (xV (Instr.loadAt 30 d0d)) a4S fun e8E a4T =>
 opK Tryd.prog E (xCall e8D [e8E]) a4T fun _t57_93 a3I =>
 opK Tryd.prog E (xBin .add 3 (.tmp 51) (.const (Value.int .i64 1)) x51 (Value.int .i64 1)) a3I fun e8F a4v =>
 next5 [e8F] a4v)
 (j4 [] a0O)
def c3j (x1 x2 x3 x4 x7 x12 x13 x14 : Value) (w : World) (j2 : List Value → World → Prop) (R : Value → World → Prop) (E : Pan) : Prop :=
 ∀ _τ : Fr, (xcut (fun _ Z5 => c3i x1 x2 x3 x4 x7 x12 x13 x14 Z5 j2 R E) fun j4 =>
 opK Tryd.prog E (xV (Instr.fieldAt 88 x7 2)) w fun e8G a0Z =>
 opK Tryd.prog E (xV (Instr.loadAt 28 e8G)) a0Z fun d0e a1b =>
 opK Tryd.prog E (xBuiltin .len #[28] 3 [false] [d0e]) a1b fun e8H a1l =>
 xloop [51] [(Value.int .i64 0)] a1l fun τ_97 a4U next5 =>
 d0c x1 x2 x3 x4 x7 x12 x13 x14 d0e e8H (τ_97 51) a4U next5 j4 R E)
def d0f (_x1 x2 _x3 _x4 _x7 _x12 _x13 _x14 x38 x39 x40 : Value) (w : World) (next6 : List Value → World → Prop) (j3 : List Value → World → Prop) (_R : Value → World → Prop) (E : Pan) : Prop :=
 opK Tryd.prog E (xBin .lss 3 (.tmp 40) (.tmp 39) x40 x39) w fun d7f a6e =>
 xcond d7f
 (opK Tryd.prog E (xV (Instr.indexAt 31 x38 x40)) a6e fun d7g a8d =>
 opK Tryd.prog E (xV (Instr.loadAt 33 d7g)) a8d fun d7h b1Q =>
 opK Tryd.prog E (xV (Instr.alloc 33 true (.tuple #[]))) b1Q fun d0g b1R =>
 opK Tryd.prog E (xU (Instr.storeAt 33 d0g d7h)) b1R fun _z_115 b1S =>
 opK Tryd.prog E (xV (Instr.loadAt 108 x2)) b1S fun d7i b1T =>
 opK Tryd.prog E (xV (Instr.loadAt 33 d0g)) b1T fun d7j a8a =>
 opK Tryd.prog E (xCall d7i [d7j]) a8a fun _t46_121 b1M =>
 opK Tryd.prog E (xBin .add 3 (.tmp 40) (.const (Value.int .i64 1)) x40 (Value.int .i64 1)) b1M fun d7k b1P =>
 next6 [d7k] b1P)
 (j3 [] a6e)
def d0h (x1 x2 x3 x4 x12 x13 x14 : Value) (w : World) (next1 : List Value → World → Prop) (R : Value → World → Prop) (E : Pan) : Prop :=
 opK Tryd.prog E (xBin .lss 3 (.tmp 14) (.tmp 13) x14 x13) w fun f0R w_4 =>
 xcond f0R
 (xcut (fun _ w_8 => c3h x1 x2 x3 x4 x12 x13 x14 w_8 next1 R E) fun j2 =>
 opK Tryd.prog E (xV (Instr.indexAt 23 x12 x14)) w_4 fun b1L k9 =>
 opK Tryd.prog E (xV (Instr.loadAt 88 b1L)) k9 fun c3c k6 =>
 opK Tryd.prog E (xV (Instr.alloc 88 true (.tuple #[]))) k6 fun a7p o2 =>
 opK Tryd.prog E (xU (Instr.storeAt 88 a7p c3c)) o2 fun _z_15 p5 =>
 opK Tryd.prog E (xV (Instr.loadAt 115 x1)) p5 fun c0K p9 =>
 opK Tryd.prog E (xV (Instr.fieldAt 88 a7p 0)) p9 fun c0L o9 =>
 opK Tryd.prog E (xV (Instr.loadAt 3 c0L)) o9 fun a8R r7 =>
 opK Tryd.prog E (xV (Instr.fieldAt 88 a7p 1)) r7 fun e8I p8 =>
 opK Tryd.prog E (xV (Instr.loadAt 9 e8I)) p8 fun c1a u4 =>
 opK Tryd.prog E (xV (Instr.fieldAt 88 a7p 3)) u4 fun e8J u7 =>
 opK Tryd.prog E (xV (Instr.loadAt 31 e8J)) u7 fun c2U o5 =>
 opK Tryd.prog E (xBuiltin .len #[31] 3 [false] [c2U]) o5 fun c2V y8 =>
 opK Tryd.prog E (xV (Instr.fieldAt 88 a7p 2)) y8 fun c2W v2 =>
 opK Tryd.prog E (xV (Instr.loadAt 28 c2W)) v2 fun c2X A7 =>
 opK Tryd.prog E (xBuiltin .len #[28] 3 [false] [c2X]) A7 fun c2Y A9 =>
 opK Tryd.prog E (xV (Instr.fieldAt 88 a7p 4)) A9 fun c1f C7 =>
 opK Tryd.prog E (xV (Instr.loadAt 23 c1f)) C7 fun c1p I9 =>
 opK Tryd.prog E (xBuiltin .len #[23] 3 [false] [c1p]) I9 fun c1q I0 =>
 opK Tryd.prog E (xV (Instr.fieldAt 88 a7p 5)) I0 fun b3O K3 =>
 opK Tryd.prog E (xV (Instr.loadAt 23 b3O)) K3 fun b3P J6 =>
 opK Tryd.prog E (xBuiltin .len #[23] 3 [false] [b3P]) J6 fun b3Q J7 =>
 opK Tryd.prog E (xV (Instr.build 114 #[(0, c2V), (1, c2Y), (2, c1q), (3, b3Q)])) J7 fun c1r N4 =>
 opK Tryd.prog E (xCall c0K [(Value.int .u8 83), a8R, (Value.int .i64 0), c1a, c1r]) N4 fun _t36_53 N9 =>
 xcut (fun _ a2X => c3j x1 x2 x3 x4 a7p x12 x13 x14 a2X j2 R E) fun j3 =>
 opK Tryd.prog E (xV (Instr.fieldAt 88 a7p 3)) N9 fun d7l a3O =>
 opK Tryd.prog E (xV (Instr.loadAt 31 d7l)) a3O fun c4g a4K =>
 opK Tryd.prog E (xBuiltin .len #[31] 3 [false] [c4g]) a4K fun d7m a4L =>
 xloop [40] [(Value.int .i64 0)] a4L fun τ_125 a8b next6 =>
 d0f x1 x2 x3 x4 a7p x12 x13 x14 c4g d7m (τ_125 40) a8b next6 j3 R E)
 (R (Value.tuple #[]) w_4)
def F71 (x0 x1 x2 x3 x4 : Value) (w : World) (R : Value → World → Prop) (E : Pan) : Prop :=
 opK Tryd.prog E (xBuiltin .len #[23] 3 [false] [x0]) w fun f0S w_2 =>
 xloop [14] [(Value.int .i64 0)] w_2 fun τ_127 b1N next1 =>
 d0h x1 x2 x3 x4 x0 f0S (τ_127 14) b1N next1 R E
noncomputable def c71 : Code := Tryd.f71.body.getD .skip
def h71 : Hint := (.seq .none (.block (.loop [14] (.seq .none (.seq (.cond .none .none) (.cut [] (.block (.seq .none (.seq .none (.cut [] (.seq .none (.block (.loop [40] (.seq .none (.seq (.cond .none .none) (.seq (.block (.seq .none .none)) .none)))))) (.cut [] (.seq .none (.block (.loop [51] (.seq .none (.seq (.cond .none .none) (.seq (.block (.seq .none .none)) .none)))))) (.seq .none .none)))))) .none))))))
theorem e8K (x0 x1 x2 x3 x4 : Value) (w : World) (R : Value → World → Prop) (E : Pan) : F71 x0 x1 x2 x3 x4 w R E = callX Tryd.prog [] c71 h71 [x0, x1, x2, x3, x4] w R E := by kernel_rfl
theorem e8L {x0 x1 x2 x3 x4 : Value} {w : World} {R : Value → World → Prop} {E : Pan} (h : F71 x0 x1 x2 x3 x4 w R E) : Cv Tryd.prog 71 #[x0, x1, x2, x3, x4] w R E := by
 refine g7 (args := [x0, x1, x2, x3, x4]) (c := c71) (h := h71) (rs := []) Tryd.func71 (by kernel_rfl) (by kernel_rfl) (Nat.le_of_ble_eq_true (by kernel_rfl)) (by kernel_rfl) (by kernel_rfl) (by kernel_rfl) ?_
 rw [← e8K]
 exact h
end Go.Proofs.YthldnpmfelniiaaDoor
