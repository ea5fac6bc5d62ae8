/- The second reading of some of the program's functions, printed by gen2.py off the code; each is held against the code by the kernel. -/
import Derived.Test.YthldnpmfelniiaaDoorProg
import Derived.Test.YthldnpmfelniiaaDoorzWK0
import Derived.KernelRfl
namespace Go.Proofs.YthldnpmfelniiaaDoor
open Go.RowKit
set_option maxRecDepth 100000
def g9d (x4 x5 : Value) (w : World) (R : Value → World → Prop) (E : Pan) : Prop :=
 ∀ _τ : Fr, (opK Tryd.prog E (xV (Instr.loadAt 25 x5)) w fun g2c A8 =>
 opK Tryd.prog E (xCall (Value.func (.func 39) #[] #[]) [g2c]) A8 fun d8j C9 =>
 opK Tryd.prog E (xV (Instr.extract d8j 0)) C9 fun _t44_37 C0 =>
 opK Tryd.prog E (xV (Instr.extract d8j 1)) C0 fun g2d D3 =>
 opK Tryd.prog E (xBin .eql 34 (.tmp 46) (.const (Value.int .i64 0)) x4 (Value.int .i64 0)) D3 fun c8P E9 =>
 opK Tryd.prog E (xBin .eql 34 (.tmp 48) (.const (Value.int .i64 0)) g2d (Value.int .i64 0)) E9 fun g2e E4 =>
 opK Tryd.prog E (xBin .eql 4 (.tmp 47) (.tmp 49) c8P g2e) E4 fun g2f K8 =>
 R g2f K8)
def g9e (x1 _x4 x5 x6 : Value) (w : World) (next2 : List Value → World → Prop) (j1 : List Value → World → Prop) (_R : Value → World → Prop) (E : Pan) : Prop :=
 opK Tryd.prog E (xBin .geq 3 (.tmp 27) (.const (Value.int .i64 0)) x6 (Value.int .i64 0)) w fun g2g M8 =>
 xcond g2g
 (dX M8 fun b5o =>
 qP Tryd.prog (xV (Instr.fieldAt 25 x5 0)) fun c9C =>
 qP Tryd.prog (xV (Instr.fieldAt 25 x1 0)) fun b4E =>
 qL Tryd.prog b5o (blk c9C) (xV (Instr.loadAt 22 c9C)) fun g2h =>
 qL Tryd.prog b5o (blk b4E) (xV (Instr.loadAt 22 b4E)) fun b7F =>
 qP Tryd.prog (xV (Instr.indexAt 22 b7F x6)) fun d8k =>
 qL Tryd.prog b5o (blk d8k) (xV (Instr.loadAt 67 d8k)) fun g2i =>
 opK Tryd.prog E (xV (Instr.buildSlice 22 1 #[(0, g2i)])) b5o fun g2j a6K =>
 keepX [(blk c9C)] b5o a6K (opK Tryd.prog E (xBuiltin .append #[22, 22] 22 [false, false] [g2h, g2j]) a6K fun g2k b5q =>
 keepX [] a6K b5q (qP Tryd.prog (xV (Instr.fieldAt 25 x5 0)) fun g2l =>
 opK Tryd.prog E (xU (Instr.storeAt 22 g2l g2k)) b5q fun _z_71 W0 =>
 keepX [] b5q W0 (opK Tryd.prog E (xBin .sub 3 (.tmp 29) (.const (Value.int .i64 1)) x6 (Value.int .i64 1)) W0 fun c6R a0e =>
 next2 [c6R] a0e))))
 (j1 [] M8)
def F9 (x0 : Value) (w : World) (R : Value → World → Prop) (E : Pan) : Prop :=
 opK Tryd.prog E (xV (Instr.box 25 x0)) w fun t7 w_2 =>
 opK Tryd.prog E (xCall (Value.func (.func 38) #[] #[]) []) w_2 fun a5a w_4 =>
 opK Tryd.prog E (xV (Op.unary .not a5a)) w_4 fun a2P w_6 =>
 xcond a2P
 (R (Value.bool false) w_6)
 (opK Tryd.prog E (xV (Instr.loadAt 25 t7)) w_6 fun a3b w_8 =>
 opK Tryd.prog E (xCall (Value.func (.func 39) #[] #[]) [a3b]) w_8 fun a2O o2 =>
 opK Tryd.prog E (xV (Instr.extract a2O 0)) o2 fun _t14_11 o7 =>
 opK Tryd.prog E (xV (Instr.extract a2O 1)) o7 fun a5u o8 =>
 opK Tryd.prog E (xV (Instr.fieldAt 25 t7 0)) o8 fun a6L p9 =>
 opK Tryd.prog E (xV (Instr.loadAt 22 a6L)) p9 fun a6M r5 =>
 opK Tryd.prog E (xBuiltin .len #[22] 3 [false] [a6M]) r5 fun a6N p7 =>
 opK Tryd.prog E (xBin .gtr 3 (.tmp 18) (.const (Value.int .i64 100)) a6N (Value.int .i64 100)) p7 fun a6O t1 =>
 xcond a6O
 (R (Value.bool true) t1)
 (opK Tryd.prog E (xV (Instr.fieldAt 25 t7 1)) t1 fun a6P t8 =>
 opK Tryd.prog E (xV (Instr.loadAt 23 a6P)) t8 fun b7n v2 =>
 opK Tryd.prog E (xV (Instr.build 25 #[(1, b7n)])) v2 fun b7o y7 =>
 opK Tryd.prog E (xV (Instr.alloc 25 true (.tuple #[]))) y7 fun d5s A7 =>
 opK Tryd.prog E (xU (Instr.storeAt 25 d5s b7o)) A7 fun _z_31 A4 =>
 xcut (fun _ J7 => g9d a5u d5s J7 R E) fun j1 =>
 opK Tryd.prog E (xV (Instr.fieldAt 25 t7 0)) A4 fun g2m G8 =>
 opK Tryd.prog E (xV (Instr.loadAt 22 g2m)) G8 fun g2n K5 =>
 opK Tryd.prog E (xBuiltin .len #[22] 3 [false] [g2n]) K5 fun g2o M3 =>
 opK Tryd.prog E (xBin .sub 3 (.tmp 25) (.const (Value.int .i64 1)) g2o (Value.int .i64 1)) M3 fun g2p M7 =>
 xloop [6] [g2p] M7 fun τ_75 Z7 next2 =>
 g9e t7 a5u d5s (τ_75 6) Z7 next2 j1 R E))
noncomputable def c9 : Code := Tryd.f9.body.getD .skip
def h9 : Hint := (.seq .none (.seq (.seq .none (.cond (.seq .none .none) .none)) (.seq .none (.seq (.seq .none (.cond (.seq .none .none) .none)) (.seq .none (.cut [] (.seq .none (.block (.loop [6] (.seq (.seq .none (.cond .none .none)) (.seq (.block (.reg [(0, 2147483648, 32), (1, 4294967296, 2147483648), (0, 8589934592, 2), (4, 17179869184, 8589934592), (0, 34359738368, 64), (24, 68719476736, 51539607552), (32, 137438953472, 68719476736), (64, 274877906944, 137438953472), (130, 549755813888, 279172874240), (511, 1099511627776, 32), (1023, 0, 1649267441664)] [74, 72, 74, 66, 74, 74, 10, 2, 0, 74, 0] (.early 0 (.early 2 (.early 4 (.load 1 (.load 3 (.early 5 (.load 6 (.step 7 (.step 8 (.early 9 (.step 10 .done))))))))))))) .none))))) (.seq .none (.seq .none .none))))))))
def F12 (x0 : Value) (w : World) (R : Value → World → Prop) (E : Pan) : Prop :=
 opK Tryd.prog E (xV (Instr.box 25 x0)) w fun t7 w_2 =>
 opK Tryd.prog E (xCall (Value.func (.func 38) #[] #[]) []) w_2 fun b1l w_4 =>
 opK Tryd.prog E (xV (Op.unary .not b1l)) w_4 fun b1k w_6 =>
 xcond b1k
 (R (Value.bool false) w_6)
 (opK Tryd.prog E (xV (Instr.loadAt 25 t7)) w_6 fun b1n w_8 =>
 opK Tryd.prog E (xCall (Value.func (.func 39) #[] #[]) [b1n]) w_8 fun b0x o2 =>
 opK Tryd.prog E (xV (Instr.extract b0x 0)) o2 fun a1H o7 =>
 opK Tryd.prog E (xV (Instr.extract b0x 1)) o7 fun c8y o8 =>
 opK Tryd.prog E (xV (Instr.loadAt 25 t7)) o8 fun a6m p9 =>
 opK Tryd.prog E (xCall (Value.func (.func 44) #[] #[]) [a6m]) p9 fun d8l r5 =>
 opK Tryd.prog E (xV (Instr.extract d8l 0)) r5 fun b2f p7 =>
 opK Tryd.prog E (xV (Instr.extract d8l 1)) p7 fun a7H t1 =>
 opK Tryd.prog E (xV (Instr.loadAt 25 t7)) t1 fun c9D t8 =>
 opK Tryd.prog E (xCall (Value.func (.func 45) #[] #[]) [c9D]) t8 fun c2u v2 =>
 opK Tryd.prog E (xV (Instr.extract c2u 0)) v2 fun d8m y7 =>
 opK Tryd.prog E (xV (Instr.extract c2u 1)) y7 fun c6O A7 =>
 opK Tryd.prog E (xV (Instr.loadAt 25 t7)) A7 fun c8z A4 =>
 opK Tryd.prog E (xCall (Value.func (.func 46) #[] #[]) [c8z]) A4 fun d8n A8 =>
 opK Tryd.prog E (xV (Instr.extract d8n 0)) A8 fun d8o C9 =>
 opK Tryd.prog E (xV (Instr.extract d8n 1)) C9 fun c9E C0 =>
 opK Tryd.prog E (xBin .neq 9 (.tmp 33) (.tmp 34) a1H b2f) C0 fun c2v D3 =>
 opK Tryd.prog E (gsem (asB c2v) false (xBin .neq 3 (.tmp 37) (.tmp 38) (gval (asB c2v) false c8y) (gval (asB c2v) false a7H))) D3 fun g2q E9 =>
 opK Tryd.prog E (xPick c2v (Value.bool true) g2q) E9 fun b4U E4 =>
 opK Tryd.prog E (gsem (asB b4U) false (xBin .neq 3 (.tmp 42) (.tmp 43) (gval (asB b4U) false c6O) (gval (asB b4U) false a7H))) E4 fun g2r K8 =>
 opK Tryd.prog E (xPick b4U (Value.bool true) g2r) K8 fun c2w J7 =>
 opK Tryd.prog E (gsem (asB c2w) false (xBin .neq 3 (.tmp 47) (.tmp 48) (gval (asB c2w) false c9E) (gval (asB c2w) false a7H))) J7 fun g2s G8 =>
 opK Tryd.prog E (xPick c2w (Value.bool true) g2s) G8 fun g2t K5 =>
 xcond g2t
 (R (Value.bool false) K5)
 (opK Tryd.prog E (xBin .neq 3 (.tmp 51) (.const (Value.int .i64 0)) a7H (Value.int .i64 0)) K5 fun g2u M3 =>
 xcond g2u
 (opK Tryd.prog E (xBuiltin .len #[47] 3 [false] [d8m]) M3 fun g2v M7 =>
 opK Tryd.prog E (xBin .eql 3 (.tmp 54) (.const (Value.int .i64 0)) g2v (Value.int .i64 0)) M7 fun c2x M8 =>
 opK Tryd.prog E (gsem (asB c2x) true (xBuiltin .len #[22] 3 [false] [(gval (asB c2x) true d8o)])) M8 fun g2w P8 =>
 opK Tryd.prog E (gsem (asB c2x) true (xBin .eql 3 (.tmp 58) (.const (Value.int .i64 0)) g2w (Value.int .i64 0))) P8 fun g2x T9 =>
 opK Tryd.prog E (xPick c2x g2x (Value.bool false)) T9 fun g2y Q2 =>
 R g2y Q2)
 (opK Tryd.prog E (xV (Instr.loadAt 25 t7)) M3 fun g2z U0 =>
 opK Tryd.prog E (xCall (Value.func (.func 47) #[] #[]) [g2z]) U0 fun g2A a0d =>
 opK Tryd.prog E (xCall (Value.func (.func 29) #[] #[]) [d8m, g2A]) a0d fun b8n N1 =>
 opK Tryd.prog E (gsem (asB b8n) true (xV (Instr.loadAt 25 t7))) N1 fun c8g W0 =>
 opK Tryd.prog E (gsem (asB b8n) true (xCall (Value.func (.func 49) #[] #[]) [c8g])) W0 fun c8h a0e =>
 opK Tryd.prog E (gsem (asB b8n) true (xCall (Value.func (.func 48) #[] #[]) [(gval (asB b8n) true d8o), c8h])) a0e fun b3a Z7 =>
 opK Tryd.prog E (xPick b8n b3a (Value.bool false)) Z7 fun g2B W8 =>
 R g2B W8)))
noncomputable def c12 : Code := Tryd.f12.body.getD .skip
def h12 : Hint := (.seq .none (.seq (.seq .none (.cond (.seq .none .none) .none)) (.seq .none (.seq .none (.seq .none (.seq .none (.seq (.seq .none (.cond (.seq .none .none) .none)) (.seq (.seq .none (.cond (.seq .none .none) .none)) (.seq .none .none)))))))))
theorem g2C (x0 : Value) (w : World) (R : Value → World → Prop) (E : Pan) : F12 x0 w R E = callX Tryd.prog [.tmp 2] c12 h12 [x0] w R E := by kernel_rfl
theorem g2D {x0 : Value} {w : World} {R : Value → World → Prop} {E : Pan} (h : F12 x0 w R E) : Cv Tryd.prog 12 #[x0] w R E := by
 refine i6 (args := [x0]) (c := c12) (h := h12) (rs := [.tmp 2]) Tryd.func12 (by kernel_rfl) (by kernel_rfl) (Nat.le_of_ble_eq_true (by kernel_rfl)) (by kernel_rfl) (by kernel_rfl) (by kernel_rfl) ?_
 rw [← g2C]
 exact h
def F38 (w : World) (R : Value → World → Prop) (E : Pan) : Prop :=
 opK Tryd.prog E (xV (Instr.build 67 #[(0, (Value.string ⟨#[120]⟩))])) w fun a9P w_2 =>
 opK Tryd.prog E (xV (Instr.build 67 #[(0, (Value.string ⟨#[120]⟩))])) w_2 fun b2g w_4 =>
 opK Tryd.prog E (xV (Instr.buildSlice 22 2 #[(0, a9P), (1, b2g)])) w_4 fun a5N w_6 =>
 opK Tryd.prog E (xV (Instr.build 25 #[(0, a5N)])) w_6 fun a9S w_8 =>
 opK Tryd.prog E (xCall (Value.func (.func 39) #[] #[]) [a9S]) w_8 fun a7w o2 =>
 opK Tryd.prog E (xV (Instr.extract a7w 0)) o2 fun a7l o7 =>
 opK Tryd.prog E (xV (Instr.extract a7w 1)) o7 fun a8K o8 =>
 opK Tryd.prog E (xBin .eql 9 (.tmp 11) (.const (Value.string ⟨#[120]⟩)) a7l (Value.string ⟨#[120]⟩)) o8 fun a6n p9 =>
 opK Tryd.prog E (gsem (asB a6n) true (xBin .eql 34 (.tmp 14) (.const (Value.int .i64 60)) (gval (asB a6n) true a8K) (Value.int .i64 60))) p9 fun g2E r5 =>
 opK Tryd.prog E (xPick a6n g2E (Value.bool false)) r5 fun b8m p7 =>
 R b8m p7
noncomputable def c38 : Code := Tryd.f38.body.getD .skip
def h38 : Hint := (.seq .none (.seq .none (.seq .none .none)))
theorem g2F (w : World) (R : Value → World → Prop) (E : Pan) : F38  w R E = callX Tryd.prog [.tmp 0] c38 h38 [] w R E := by kernel_rfl
theorem g2G {w : World} {R : Value → World → Prop} {E : Pan} (h : F38  w R E) : Cv Tryd.prog 38 #[] w R E := by
 refine i6 (args := []) (c := c38) (h := h38) (rs := [.tmp 0]) Tryd.func38 (by kernel_rfl) (by kernel_rfl) (Nat.zero_le _) (by kernel_rfl) (by kernel_rfl) (by kernel_rfl) ?_
 rw [← g2F]
 exact h
def c9F (x7 x9 : Value) (w : World) (R : Value → World → Prop) (_E : Pan) : Prop :=
 ∀ _τ : Fr, (R (Value.tuple #[x9, x7]) w)
def d8p (x5 x7 x9 x37 x38 x39 : Value) (w : World) (next2 : List Value → World → Prop) (j1 : List Value → World → Prop) (_R : Value → World → Prop) (E : Pan) : Prop :=
 opK Tryd.prog E (xBin .lss 3 (.tmp 39) (.tmp 38) x39 x38) w fun b4U E4 =>
 xcond b4U
 (opK Tryd.prog E (xV (Instr.indexAt 124 x37 x39)) E4 fun g2H K8 =>
 opK Tryd.prog E (xV (Instr.loadAt 128 g2H)) K8 fun g2I J7 =>
 opK Tryd.prog E (xV (Instr.alloc 128 true (.tuple #[]))) J7 fun b8o G8 =>
 opK Tryd.prog E (xU (Instr.storeAt 128 b8o g2I)) G8 fun _z_51 K5 =>
 opK Tryd.prog E (xV (Instr.fieldAt 128 b8o 0)) K5 fun g2J M3 =>
 opK Tryd.prog E (xV (Instr.loadAt 9 g2J)) M3 fun g2K M7 =>
 opK Tryd.prog E (xV (Instr.lookup 120 x5 g2K false)) M7 fun c2y M8 =>
 opK Tryd.prog E (xV (Instr.fieldAt 128 b8o 1)) M8 fun g2L P8 =>
 opK Tryd.prog E (xV (Instr.loadAt 3 g2L)) P8 fun g2M T9 =>
 opK Tryd.prog E (xBin .eql 3 (.tmp 46) (.tmp 51) c2y g2M) T9 fun g2N Q2 =>
 xcond g2N
 (opK Tryd.prog E (xBin .add 3 (.tmp 39) (.const (Value.int .i64 1)) x39 (Value.int .i64 1)) Q2 fun g2O U0 =>
 next2 [x7, x9, g2O] U0)
 (opK Tryd.prog E (xBin .eql 3 (.tmp 46) (.const (Value.int .i64 0)) c2y (Value.int .i64 0)) Q2 fun g2P a0d =>
 xcond g2P
 (opK Tryd.prog E (xV (Instr.fieldAt 128 b8o 0)) a0d fun g2Q N1 =>
 opK Tryd.prog E (xV (Instr.loadAt 9 g2Q)) N1 fun g2R W0 =>
 j1 [(Value.int .i64 63), g2R] W0)
 (opK Tryd.prog E (xV (Instr.fieldAt 128 b8o 0)) a0d fun g2S a0e =>
 opK Tryd.prog E (xV (Instr.loadAt 9 g2S)) a0e fun g2T Z7 =>
 j1 [(Value.int .i64 64), g2T] Z7)))
 (j1 [x7, x9] E4)
def F39 (x0 : Value) (w : World) (R : Value → World → Prop) (E : Pan) : Prop :=
 opK Tryd.prog E (xV (Instr.box 25 x0)) w fun t7 w_2 =>
 opK Tryd.prog E (xV (Instr.loadAt 25 t7)) w_2 fun b5v w_4 =>
 opK Tryd.prog E (xCall (Value.func (.func 27) #[] #[]) [b5v]) w_4 fun b5w w_6 =>
 opK Tryd.prog E (xBin .neq 34 (.tmp 14) (.const (Value.int .i64 0)) b5w (Value.int .i64 0)) w_6 fun b6o w_8 =>
 xcond b6o
 (R (Value.tuple #[(Value.string ⟨#[]⟩), b5w]) w_8)
 (opK Tryd.prog E (xV (Instr.fieldAt 25 t7 0)) w_8 fun d3I o2 =>
 opK Tryd.prog E (xV (Instr.loadAt 22 d3I)) o2 fun c8I o7 =>
 opK Tryd.prog E (xCall (Value.func (.func 75) #[] #[]) [c8I]) o7 fun c9G o8 =>
 opK Tryd.prog E (xV (Instr.extract c9G 0)) o8 fun g2U p9 =>
 opK Tryd.prog E (xV (Instr.extract c9G 1)) p9 fun b7v r5 =>
 opK Tryd.prog E (xV (Instr.extract c9G 2)) r5 fun b8f p7 =>
 opK Tryd.prog E (xBin .neq 34 (.tmp 24) (.const (Value.int .i64 0)) b8f (Value.int .i64 0)) p7 fun c6P t1 =>
 xcond c6P
 (R (Value.tuple #[b7v, b8f]) t1)
 (opK Tryd.prog E (xV (Instr.build 126 #[])) t1 fun a2T t8 =>
 opK Tryd.prog E (xV (Instr.box 126 a2T)) t8 fun c2a v2 =>
 opK Tryd.prog E (xV (Instr.fieldAt 25 t7 1)) v2 fun g2V y7 =>
 opK Tryd.prog E (xV (Instr.loadAt 23 g2V)) y7 fun b2i A7 =>
 opK Tryd.prog E (xCall (Value.func (.func 76) #[] #[]) [c2a, b2i]) A7 fun _t33_31 A4 =>
 xcut (fun e0J A8 => c9F (nth e0J 0) (nth e0J.tail 0) A8 R E) fun j1 =>
 opK Tryd.prog E (xNil c2a) A4 fun g2W C9 =>
 opK Tryd.prog E (xV (Instr.fieldAt 126 g2W 0)) C9 fun g2X C0 =>
 opK Tryd.prog E (xV (Instr.loadAt 124 g2X)) C0 fun d8q D3 =>
 opK Tryd.prog E (xBuiltin .len #[124] 3 [false] [d8q]) D3 fun g2Y E9 =>
 xloop [7, 9, 39] [b8f, (Value.string ⟨#[]⟩), (Value.int .i64 0)] E9 fun τ_77 W8 next2 =>
 d8p g2U (τ_77 7) (τ_77 9) d8q g2Y (τ_77 39) W8 next2 j1 R E))
noncomputable def c39 : Code := Tryd.f39.body.getD .skip
def h39 : Hint := (.seq .none (.scope (.seq (.seq .none (.seq .none (.cond (.seq .none .none) .none))) (.seq .none (.seq (.seq .none (.cond (.seq .none .none) .none)) (.seq .none (.seq .none (.seq .none (.seq .none (.cut [7, 9] (.seq .none (.block (.loop [7, 9, 39] (.seq .none (.seq (.cond .none .none) (.seq (.block (.seq .none (.seq .none (.block (.seq .none (.cond .none (.seq .none (.cond (.seq .none .none) (.seq .none .none))))))))) .none)))))) (.seq .none .none)))))))))))
theorem g2Z (x0 : Value) (w : World) (R : Value → World → Prop) (E : Pan) : F39 x0 w R E = callX Tryd.prog [.tmp 2, .tmp 3] c39 h39 [x0] w R E := by kernel_rfl
theorem g3a {x0 : Value} {w : World} {R : Value → World → Prop} {E : Pan} (h : F39 x0 w R E) : Cv Tryd.prog 39 #[x0] w R E := by
 refine i6 (args := [x0]) (c := c39) (h := h39) (rs := [.tmp 2, .tmp 3]) Tryd.func39 (by kernel_rfl) (by kernel_rfl) (Nat.le_of_ble_eq_true (by kernel_rfl)) (by kernel_rfl) (by kernel_rfl) (by kernel_rfl) ?_
 rw [← g2Z]
 exact h
def c9H (w : World) (R : Value → World → Prop) (_E : Pan) : Prop :=
 ∀ _τ : Fr, (R (Value.tuple #[(Value.string ⟨#[]⟩), (Value.int .i64 0)]) w)
def d8r (x1 x9 x10 : Value) (w : World) (next3 : List Value → World → Prop) (j2 : List Value → World → Prop) (R : Value → World → Prop) (E : Pan) : Prop :=
 opK Tryd.prog E (xBuiltin .len #[68] 3 [false] [x9]) w fun g3b p9 =>
 opK Tryd.prog E (xBin .lss 3 (.tmp 64) (.tmp 66) x10 g3b) p9 fun g3c r5 =>
 xcond g3c
 (dX r5 fun a5b =>
 qP Tryd.prog (xV (Instr.fieldAt 25 x1 0)) fun d8s =>
 qP Tryd.prog (xV (Instr.indexAt 68 x9 x10)) fun g3d =>
 qP Tryd.prog (xV (Instr.fieldAt 71 g3d 0)) fun d8t =>
 qL Tryd.prog a5b (blk d8s) (xV (Instr.loadAt 22 d8s)) fun g3e =>
 qL Tryd.prog a5b (blk d8t) (xV (Instr.loadAt 9 d8t)) fun g3f =>
 opK Tryd.prog E (xCall (Value.func (.func 81) #[] #[]) [g3e, g3f]) a5b fun d8u v2 =>
 keepX [] a5b v2 (opK Tryd.prog E (xBin .lss 3 (.tmp 78) (.const (Value.int .i64 0)) d8u (Value.int .i64 0)) v2 fun g3g y7 =>
 xcond g3g
 (opK Tryd.prog E (xV (Instr.indexAt 68 x9 x10)) y7 fun g3h A7 =>
 opK Tryd.prog E (xV (Instr.fieldAt 71 g3h 0)) A7 fun g3i A4 =>
 opK Tryd.prog E (xV (Instr.loadAt 9 g3i)) A4 fun g3j A8 =>
 R (Value.tuple #[g3j, (Value.int .i64 63)]) A8)
 (dX y7 fun a8G =>
 qP Tryd.prog (xV (Instr.fieldAt 25 x1 0)) fun d8v =>
 qP Tryd.prog (xV (Instr.indexAt 68 x9 x10)) fun g3k =>
 qP Tryd.prog (xV (Instr.fieldAt 71 g3k 1)) fun d8w =>
 qL Tryd.prog a8G (blk d8v) (xV (Instr.loadAt 22 d8v)) fun g3l =>
 qP Tryd.prog (xV (Instr.indexAt 22 g3l d8u)) fun g3m =>
 qP Tryd.prog (xV (Instr.fieldAt 67 g3m 1)) fun d8x =>
 qL Tryd.prog a8G (blk d8x) (xV (Instr.loadAt 3 d8x)) fun g3n =>
 qP Tryd.prog (xBin .gtr 3 (.tmp 90) (.const (Value.int .i64 0)) g3n (Value.int .i64 0)) fun g3o =>
 qL Tryd.prog a8G (blk d8w) (xV (Instr.loadAt 4 d8w)) fun g3p =>
 qP Tryd.prog (xBin .neq 4 (.tmp 91) (.tmp 96) g3o g3p) fun g3q =>
 xcond g3q
 (opK Tryd.prog E (xV (Instr.indexAt 68 x9 x10)) a8G fun e8D a9R =>
 opK Tryd.prog E (xV (Instr.fieldAt 71 e8D 0)) a9R fun e8E b2a =>
 opK Tryd.prog E (xV (Instr.loadAt 9 e8E)) b2a fun e8F b7i =>
 R (Value.tuple #[e8F, (Value.int .i64 64)]) b7i)
 (opK Tryd.prog E (xBin .add 3 (.tmp 68) (.const (Value.int .i64 1)) x10 (Value.int .i64 1)) a8G fun g3r d1U =>
 next3 [g3r] d1U))))
 (j2 [] r5)
def c9I (x1 : Value) (w : World) (R : Value → World → Prop) (E : Pan) : Prop :=
 ∀ _τ : Fr, (opK Tryd.prog E (xV (Instr.loadAt 25 x1)) w fun g9f o2 =>
 opK Tryd.prog E (xCall (Value.func (.func 37) #[] #[]) [g9f]) o2 fun g3s o7 =>
 xcut (fun _ o8 => c9H o8 R E) fun j2 =>
 xloop [10] [(Value.int .i64 0)] o7 fun τ_54 c6j next3 =>
 d8r x1 g3s (τ_54 10) c6j next3 j2 R E)
def c9J (x1 x5 x6 x7 x8 : Value) (w : World) (next4 : List Value → World → Prop) (R : Value → World → Prop) (E : Pan) : Prop :=
 ∀ _τ : Fr, (dX w fun W8 =>
 qP Tryd.prog (xV (Instr.fieldAt 25 x1 0)) fun c2c =>
 qP Tryd.prog (xV (Instr.fieldAt 67 x8 0)) fun d8y =>
 qL Tryd.prog W8 (blk c2c) (xV (Instr.loadAt 22 c2c)) fun g3t =>
 qP Tryd.prog (xV (Instr.sliceAt 22 g3t none (some x7) none)) fun g3u =>
 qL Tryd.prog W8 (blk d8y) (xV (Instr.loadAt 9 d8y)) fun g3v =>
 opK Tryd.prog E (xCall (Value.func (.func 81) #[] #[]) [g3u, g3v]) W8 fun g3w e2U =>
 keepX [] W8 e2U (qP Tryd.prog (xBin .geq 3 (.tmp 43) (.const (Value.int .i64 0)) g3w (Value.int .i64 0)) fun g3x =>
 xcond g3x
 (opK Tryd.prog E (xV (Instr.fieldAt 67 x8 0)) e2U fun g3y a2e =>
 opK Tryd.prog E (xV (Instr.loadAt 9 g3y)) a2e fun g3z a4B =>
 R (Value.tuple #[g3z, (Value.int .i64 60)]) a4B)
 (opK Tryd.prog E (xV (Instr.fieldAt 67 x8 1)) e2U fun g3A a4C =>
 opK Tryd.prog E (xV (Instr.loadAt 3 g3A)) a4C fun g3B a4e =>
 opK Tryd.prog E (xBin .gtr 3 (.tmp 49) (.const (Value.int .i64 1024)) g3B (Value.int .i64 1024)) a4e fun g3C a2V =>
 xcond g3C
 (opK Tryd.prog E (xV (Instr.fieldAt 67 x8 0)) a2V fun g3D a4D =>
 opK Tryd.prog E (xV (Instr.loadAt 9 g3D)) a4D fun g3E a2i =>
 R (Value.tuple #[g3E, (Value.int .i64 61)]) a2i)
 (opK Tryd.prog E (xBin .gtr 3 (.tmp 54) (.const (Value.int .i64 32)) x5 (Value.int .i64 32)) a2V fun b4A a1G =>
 opK Tryd.prog E (gsem (asB b4A) false (xBin .gtr 3 (.tmp 57) (.const (Value.int .i64 16)) (gval (asB b4A) false x6) (Value.int .i64 16))) a1G fun e8G a3d =>
 opK Tryd.prog E (xPick b4A (Value.bool true) e8G) a3d fun e8H a0Z =>
 xcond e8H
 (opK Tryd.prog E (xV (Instr.fieldAt 67 x8 0)) a0Z fun e8I a4Q =>
 opK Tryd.prog E (xV (Instr.loadAt 9 e8I)) a4Q fun e8J a4p =>
 R (Value.tuple #[e8J, (Value.int .i64 62)]) a4p)
 (opK Tryd.prog E (xBin .add 3 (.tmp 22) (.const (Value.int .i64 1)) x7 (Value.int .i64 1)) a0Z fun e8K a4q =>
 next4 [x5, x6, e8K] a4q)))))
def d8z (x1 x5 x6 x7 : Value) (w : World) (next4 : List Value → World → Prop) (j1 : List Value → World → Prop) (R : Value → World → Prop) (E : Pan) : Prop :=
 opK Tryd.prog E (xV (Instr.fieldAt 25 x1 0)) w fun g3F b5o =>
 opK Tryd.prog E (xV (Instr.loadAt 22 g3F)) b5o fun g3G b5p =>
 opK Tryd.prog E (xBuiltin .len #[22] 3 [false] [g3G]) b5p fun g3H c2X =>
 opK Tryd.prog E (xBin .lss 3 (.tmp 17) (.tmp 20) x7 g3H) c2X fun g3I b7j =>
 xcond g3I
 (opK Tryd.prog E (xV (Instr.fieldAt 25 x1 0)) b7j fun g3J a6K =>
 opK Tryd.prog E (xV (Instr.loadAt 22 g3J)) a6K fun g3K b5q =>
 opK Tryd.prog E (xV (Instr.indexAt 22 g3K x7)) b5q fun g3L d9A =>
 opK Tryd.prog E (xV (Instr.loadAt 67 g3L)) d9A fun g3M c3K =>
 opK Tryd.prog E (xV (Instr.alloc 67 true (.tuple #[]))) c3K fun d5t g3N =>
 opK Tryd.prog E (xU (Instr.storeAt 67 d5t g3M)) g3N fun _z_76 h3O =>
 xcut (fun b1s a2j => c9J x1 (nth b1s 0) (nth b1s.tail 0) x7 d5t a2j next4 R E) fun j5 =>
 opK Tryd.prog E (xV (Instr.fieldAt 67 d5t 1)) h3O fun e8L a3e =>
 opK Tryd.prog E (xV (Instr.loadAt 3 e8L)) a3e fun e8M a5h =>
 opK Tryd.prog E (xBin .eql 3 (.tmp 30) (.const (Value.int .i64 0)) e8M (Value.int .i64 0)) a5h fun e8N a3f =>
 xcond e8N
 (opK Tryd.prog E (xBin .add 3 (.tmp 32) (.const (Value.int .i64 1)) x5 (Value.int .i64 1)) a3f fun e8O a5O =>
 j5 [e8O, x6] a5O)
 (opK Tryd.prog E (xBin .add 3 (.tmp 34) (.const (Value.int .i64 1)) x6 (Value.int .i64 1)) a3f fun e8P a8H =>
 j5 [x5, e8P] a8H))
 (j1 [] b7j)
def F44 (x0 : Value) (w : World) (R : Value → World → Prop) (E : Pan) : Prop :=
 opK Tryd.prog E (xV (Instr.box 25 x0)) w fun t7 w_2 =>
 opK Tryd.prog E (xV (Instr.loadAt 25 t7)) w_2 fun b5v w_4 =>
 opK Tryd.prog E (xCall (Value.func (.func 23) #[] #[]) [b5v]) w_4 fun b5w w_6 =>
 opK Tryd.prog E (xBin .neq 3 (.tmp 14) (.const (Value.int .i64 0)) b5w (Value.int .i64 0)) w_6 fun b6o w_8 =>
 xcond b6o
 (R (Value.tuple #[(Value.string ⟨#[]⟩), b5w]) w_8)
 (xcut (fun _ b9E => c9I t7 b9E R E) fun j1 =>
 xloop [5, 6, 7] [(Value.int .i64 0), (Value.int .i64 0), (Value.int .i64 0)] w_8 fun τ_125 a7O next4 =>
 d8z t7 (τ_125 5) (τ_125 6) (τ_125 7) a7O next4 j1 R E)
noncomputable def c44 : Code := Tryd.f44.body.getD .skip
def h44 : Hint := (.seq .none (.seq .none (.seq (.seq .none (.cond (.seq .none .none) .none)) (.seq .none (.cut [] (.seq .none (.block (.loop [5, 6, 7] (.seq (.seq .none (.cond .none .none)) (.seq (.block (.seq .none (.cut [5, 6] (.seq .none (.cond .none .none)) (.block (.seq (.reg [(0, 137438953472, 2), (1, 274877906944, 137438953472), (0, 549755813888, 128), (6, 1099511627776, 824633720832), (0, 2199023255552, 256), (16, 4398046511104, 2199023255552), (40, 8796093022208, 5497558138880), (64, 17592186044416, 8796093022208), (192, 68719476736, 17592186044416)] [34, 32, 34, 34, 34, 2, 0, 34, 34] (.early 0 (.early 2 (.early 4 (.load 1 (.early 3 (.load 5 (.step 6 (.early 7 (.early 8 .done)))))))))) (.cond (.seq .none .none) (.seq .none (.cond (.seq .none .none) (.seq .none (.cond (.seq .none .none) .none)))))))))) .none))))) (.seq .none (.cut [] (.seq .none (.block (.loop [10] (.seq (.seq .none (.cond .none .none)) (.seq (.block (.seq (.reg [(0, 1180591620717411303424, 2), (1, 2361183241434822606848, 1180591620717411303424), (0, 4722366482869645213696, 512), (0, 9444732965739290427392, 1024), (12, 18889465931478580854784, 14167099448608935641088), (16, 37778931862957161709568, 18889465931478580854784), (32, 75557863725914323419136, 37778931862957161709568), (66, 151115727451828646838272, 77919046967349146025984), (255, 2048, 151115727451828646838272)] [66, 64, 66, 66, 66, 66, 2, 0, 66] (.early 0 (.early 2 (.early 3 (.early 4 (.early 5 (.load 1 (.load 6 (.step 7 (.early 8 .done)))))))))) (.seq (.seq .none (.cond (.seq .none .none) .none)) (.seq (.reg [(0, 38685626227668133590597632, 2), (1, 77371252455336267181195264, 38685626227668133590597632), (0, 154742504910672534362390528, 2048), (6, 309485009821345068724781056, 232113757366008801543585792), (8, 618970019642690137449562112, 309485009821345068724781056), (16, 1237940039285380274899124224, 618970019642690137449562112), (32, 2475880078570760549798248448, 1237940039285380274899124224), (0, 4951760157141521099596496896, 512), (0, 9903520314283042199192993792, 1024), (384, 19807040628566084398385987584, 14855280471424563298789490688), (512, 39614081257132168796771975168, 19807040628566084398385987584), (1024, 79228162514264337593543950336, 39614081257132168796771975168), (2112, 158456325028528675187087900672, 81704042592835098143342198784)] [2082, 2080, 2082, 2082, 2082, 2050, 2082, 2082, 2082, 2082, 2082, 34, 2082] (.early 0 (.early 2 (.early 7 (.early 8 (.early 9 (.early 10 (.load 1 (.early 3 (.early 4 (.load 5 (.early 6 (.load 11 (.early 12 .done)))))))))))))) (.cond (.seq .none .none) .none))))) .none))))) (.seq .none .none))))))))
theorem g3O (x0 : Value) (w : World) (R : Value → World → Prop) (E : Pan) : F44 x0 w R E = callX Tryd.prog [.tmp 2, .tmp 3] c44 h44 [x0] w R E := by kernel_rfl
theorem g3P {x0 : Value} {w : World} {R : Value → World → Prop} {E : Pan} (h : F44 x0 w R E) : Cv Tryd.prog 44 #[x0] w R E := by
 refine i6 (args := [x0]) (c := c44) (h := h44) (rs := [.tmp 2, .tmp 3]) Tryd.func44 (by kernel_rfl) (by kernel_rfl) (Nat.le_of_ble_eq_true (by kernel_rfl)) (by kernel_rfl) (by kernel_rfl) (by kernel_rfl) ?_
 rw [← g3O]
 exact h
def c9K (x5 x6 : Value) (w : World) (R : Value → World → Prop) (_E : Pan) : Prop :=
 ∀ _τ : Fr, (R (Value.tuple #[x6, x5]) w)
def d8A (_x5 x6 x14 x15 x16 : Value) (w : World) (next2 : List Value → World → Prop) (j1 : List Value → World → Prop) (_R : Value → World → Prop) (E : Pan) : Prop :=
 opK Tryd.prog E (xBin .lss 3 (.tmp 16) (.tmp 15) x16 x15) w fun b2c p9 =>
 xcond b2c
 (opK Tryd.prog E (xV (Instr.indexAt 22 x14 x16)) p9 fun b7k r5 =>
 opK Tryd.prog E (xV (Instr.loadAt 67 b7k)) r5 fun c6m p7 =>
 opK Tryd.prog E (xV (Instr.alloc 67 true (.tuple #[]))) p7 fun e4g t1 =>
 opK Tryd.prog E (xU (Instr.storeAt 67 e4g c6m)) t1 fun _z_23 t8 =>
 opK Tryd.prog E (xV (Instr.fieldAt 67 e4g 0)) t8 fun b7n v2 =>
 opK Tryd.prog E (xV (Instr.loadAt 9 b7n)) v2 fun b7o y7 =>
 opK Tryd.prog E (xV (Instr.buildSlice 47 1 #[(0, b7o)])) y7 fun g3Q A7 =>
 opK Tryd.prog E (xBuiltin .append #[47, 47] 47 [false, false] [x6, g3Q]) A7 fun c6r A4 =>
 opK Tryd.prog E (xBin .add 3 (.tmp 16) (.const (Value.int .i64 1)) x16 (Value.int .i64 1)) A4 fun c6s A8 =>
 next2 [c6r, c6s] A8)
 (j1 [x6] p9)
def F45 (x0 : Value) (w : World) (R : Value → World → Prop) (E : Pan) : Prop :=
 opK Tryd.prog E (xV (Instr.box 25 x0)) w fun t7 w_2 =>
 opK Tryd.prog E (xV (Instr.loadAt 25 t7)) w_2 fun b1j w_4 =>
 opK Tryd.prog E (xCall (Value.func (.func 82) #[] #[]) [b1j, (Value.int .i64 1)]) w_4 fun a6A w_6 =>
 opK Tryd.prog E (xV (Instr.extract a6A 0)) w_6 fun a3b w_8 =>
 opK Tryd.prog E (xV (Instr.extract a6A 1)) w_8 fun a2O o2 =>
 xcut (fun b7x o7 => c9K a2O (nth b7x 0) o7 R E) fun j1 =>
 opK Tryd.prog E (xBuiltin .len #[22] 3 [false] [a3b]) o2 fun a5u o8 =>
 xloop [6, 16] [(Value.slice none 0 0), (Value.int .i64 0)] o8 fun τ_35 C9 next2 =>
 d8A a2O (τ_35 6) a3b a5u (τ_35 16) C9 next2 j1 R E
noncomputable def c45 : Code := Tryd.f45.body.getD .skip
def h45 : Hint := (.seq .none (.seq .none (.seq .none (.cut [6] (.seq .none (.block (.loop [6, 16] (.seq .none (.seq (.cond .none .none) (.seq (.block (.seq .none .none)) .none)))))) (.seq .none .none)))))
theorem g3R (x0 : Value) (w : World) (R : Value → World → Prop) (E : Pan) : F45 x0 w R E = callX Tryd.prog [.tmp 2, .tmp 3] c45 h45 [x0] w R E := by kernel_rfl
theorem g3S {x0 : Value} {w : World} {R : Value → World → Prop} {E : Pan} (h : F45 x0 w R E) : Cv Tryd.prog 45 #[x0] w R E := by
 refine i6 (args := [x0]) (c := c45) (h := h45) (rs := [.tmp 2, .tmp 3]) Tryd.func45 (by kernel_rfl) (by kernel_rfl) (Nat.le_of_ble_eq_true (by kernel_rfl)) (by kernel_rfl) (by kernel_rfl) (by kernel_rfl) ?_
 rw [← g3R]
 exact h
def F46 (x0 : Value) (w : World) (R : Value → World → Prop) (E : Pan) : Prop :=
 opK Tryd.prog E (xV (Instr.box 25 x0)) w fun t7 w_2 =>
 opK Tryd.prog E (xV (Instr.loadAt 25 t7)) w_2 fun b3Y w_4 =>
 opK Tryd.prog E (xCall (Value.func (.func 82) #[] #[]) [b3Y, (Value.int .i64 2)]) w_4 fun c3i w_6 =>
 opK Tryd.prog E (xV (Instr.extract c3i 0)) w_6 fun c6S w_8 =>
 opK Tryd.prog E (xV (Instr.extract c3i 1)) w_8 fun d9G o2 =>
 R (Value.tuple #[c6S, d9G]) o2
noncomputable def c46 : Code := Tryd.f46.body.getD .skip
def h46 : Hint := (.seq .none (.seq .none .none))
theorem g3T (x0 : Value) (w : World) (R : Value → World → Prop) (E : Pan) : F46 x0 w R E = callX Tryd.prog [.tmp 2, .tmp 3] c46 h46 [x0] w R E := by kernel_rfl
theorem g3U {x0 : Value} {w : World} {R : Value → World → Prop} {E : Pan} (h : F46 x0 w R E) : Cv Tryd.prog 46 #[x0] w R E := by
 refine i6 (args := [x0]) (c := c46) (h := h46) (rs := [.tmp 2, .tmp 3]) Tryd.func46 (by kernel_rfl) (by kernel_rfl) (Nat.le_of_ble_eq_true (by kernel_rfl)) (by kernel_rfl) (by kernel_rfl) (by kernel_rfl) ?_
 rw [← g3T]
 exact h
def c9L (x3 : Value) (w : World) (R : Value → World → Prop) (_E : Pan) : Prop :=
 ∀ _τ : Fr, (R x3 w)
def c9M (_x1 x3 x4 : Value) (w : World) (next2 : List Value → World → Prop) (_R : Value → World → Prop) (E : Pan) : Prop :=
 ∀ _τ : Fr, (opK Tryd.prog E (xBin .add 3 (.tmp 10) (.const (Value.int .i64 1)) x4 (Value.int .i64 1)) w fun b7G o8 =>
 next2 [x3, b7G] o8)
def d8B (x1 x3 x4 : Value) (w : World) (next2 : List Value → World → Prop) (j1 : List Value → World → Prop) (R : Value → World → Prop) (E : Pan) : Prop :=
 opK Tryd.prog E (xV (Instr.fieldAt 25 x1 0)) w fun a5N w_6 =>
 opK Tryd.prog E (xV (Instr.loadAt 22 a5N)) w_6 fun a9S w_8 =>
 opK Tryd.prog E (xBuiltin .len #[22] 3 [false] [a9S]) w_8 fun a7w o2 =>
 opK Tryd.prog E (xBin .lss 3 (.tmp 5) (.tmp 8) x4 a7w) o2 fun a7l o7 =>
 xcond a7l
 (xcut (fun b7P p9 => c9M x1 (nth b7P 0) x4 p9 next2 R E) fun j3 =>
 opK Tryd.prog E (xV (Instr.fieldAt 25 x1 0)) o7 fun a6Q r5 =>
 opK Tryd.prog E (xV (Instr.loadAt 22 a6Q)) r5 fun a6R p7 =>
 opK Tryd.prog E (xV (Instr.indexAt 22 a6R x4)) p7 fun b2k t1 =>
 opK Tryd.prog E (xV (Instr.fieldAt 67 b2k 1)) t1 fun b7H t8 =>
 opK Tryd.prog E (xV (Instr.loadAt 3 b7H)) t8 fun b7I v2 =>
 opK Tryd.prog E (xBin .eql 3 (.tmp 17) (.const (Value.int .i64 0)) b7I (Value.int .i64 0)) v2 fun b7J y7 =>
 xcond b7J
 (opK Tryd.prog E (xV (Instr.fieldAt 25 x1 0)) y7 fun c9N A7 =>
 opK Tryd.prog E (xV (Instr.loadAt 22 c9N)) A7 fun b4B A4 =>
 opK Tryd.prog E (xV (Instr.indexAt 22 b4B x4)) A4 fun b7B A8 =>
 opK Tryd.prog E (xV (Instr.fieldAt 67 b7B 0)) A8 fun b7C C9 =>
 opK Tryd.prog E (xV (Instr.loadAt 9 b7C)) C9 fun a5w C0 =>
 opK Tryd.prog E (xV (Instr.buildSlice 47 1 #[(0, a5w)])) C0 fun c9O D3 =>
 opK Tryd.prog E (xBuiltin .append #[47, 47] 47 [false, false] [x3, c9O]) D3 fun g3V E9 =>
 j3 [g3V] E9)
 (j3 [x3] y7))
 (j1 [x3] o7)
def F47 (x0 : Value) (w : World) (R : Value → World → Prop) (E : Pan) : Prop :=
 opK Tryd.prog E (xV (Instr.box 25 x0)) w fun t7 w_2 =>
 xcut (fun l_3 w_4 => c9L (nth l_3 0) w_4 R E) fun j1 =>
 xloop [3, 4] [(Value.slice none 0 0), (Value.int .i64 0)] w_2 fun τ_43 E4 next2 =>
 d8B t7 (τ_43 3) (τ_43 4) E4 next2 j1 R E
noncomputable def c47 : Code := Tryd.f47.body.getD .skip
def h47 : Hint := (.seq .none (.seq .none (.cut [3] (.seq .none (.block (.loop [3, 4] (.seq (.seq .none (.cond .none .none)) (.cut [3] (.block (.seq .none (.cond .none .none))) .none))))) (.seq .none .none))))
theorem g3W (x0 : Value) (w : World) (R : Value → World → Prop) (E : Pan) : F47 x0 w R E = callX Tryd.prog [.tmp 2] c47 h47 [x0] w R E := by kernel_rfl
theorem g3X {x0 : Value} {w : World} {R : Value → World → Prop} {E : Pan} (h : F47 x0 w R E) : Cv Tryd.prog 47 #[x0] w R E := by
 refine i6 (args := [x0]) (c := c47) (h := h47) (rs := [.tmp 2]) Tryd.func47 (by kernel_rfl) (by kernel_rfl) (Nat.le_of_ble_eq_true (by kernel_rfl)) (by kernel_rfl) (by kernel_rfl) (by kernel_rfl) ?_
 rw [← g3W]
 exact h
def c9P (w : World) (R : Value → World → Prop) (_E : Pan) : Prop :=
 ∀ _τ : Fr, (R (Value.bool true) w)
def d8C (x0 x1 x5 : Value) (w : World) (next2 : List Value → World → Prop) (j1 : List Value → World → Prop) (R : Value → World → Prop) (E : Pan) : Prop :=
 opK Tryd.prog E (xBuiltin .len #[22] 3 [false] [x0]) w fun a2O o2 =>
 opK Tryd.prog E (xBin .lss 3 (.tmp 11) (.tmp 13) x5 a2O) o2 fun b1Z o7 =>
 xcond b1Z
 (dX o7 fun a0b =>
 qP Tryd.prog (xV (Instr.indexAt 22 x0 x5)) fun b8k =>
 qP Tryd.prog (xV (Instr.indexAt 22 x1 x5)) fun b8l =>
 qL Tryd.prog a0b (blk b8k) (xV (Instr.loadAt 67 b8k)) fun c9i =>
 qL Tryd.prog a0b (blk b8l) (xV (Instr.loadAt 67 b8l)) fun c9j =>
 qP Tryd.prog (xBin .neq 67 (.tmp 20) (.tmp 24) c9i c9j) fun c9k =>
 xcond c9k
 (R (Value.bool false) a0b)
 (opK Tryd.prog E (xBin .add 3 (.tmp 15) (.const (Value.int .i64 1)) x5 (Value.int .i64 1)) a0b fun b8m p7 =>
 next2 [b8m] p7))
 (j1 [] o7)
def F48 (x0 x1 : Value) (w : World) (R : Value → World → Prop) (E : Pan) : Prop :=
 opK Tryd.prog E (xBuiltin .len #[22] 3 [false] [x0]) w fun b5y w_2 =>
 opK Tryd.prog E (xBuiltin .len #[22] 3 [false] [x1]) w_2 fun a5a w_4 =>
 opK Tryd.prog E (xBin .neq 3 (.tmp 7) (.tmp 9) b5y a5a) w_4 fun a2P w_6 =>
 xcond a2P
 (R (Value.bool false) w_6)
 (xcut (fun _ w_8 => c9P w_8 R E) fun j1 =>
 xloop [5] [(Value.int .i64 0)] w_6 fun τ_21 t1 next2 =>
 d8C x0 x1 (τ_21 5) t1 next2 j1 R E)
noncomputable def c48 : Code := Tryd.f48.body.getD .skip
def h48 : Hint := (.seq .none (.seq (.seq .none (.cond (.seq .none .none) .none)) (.cut [] (.seq .none (.block (.loop [5] (.seq (.seq .none (.cond .none .none)) (.seq (.block (.seq (.reg [(0, 131072, 1), (0, 262144, 32), (3, 524288, 393216), (4, 1048576, 524288), (0, 2097152, 2), (0, 4194304, 32), (48, 8388608, 6291456), (64, 16777216, 8388608), (136, 33554432, 17825792)] [136, 136, 136, 128, 136, 136, 136, 8, 136] (.early 0 (.early 1 (.early 2 (.early 4 (.early 5 (.early 6 (.load 3 (.load 7 (.early 8 .done)))))))))) (.cond (.seq .none .none) .none))) .none))))) (.seq .none .none))))
theorem g3Y (x0 x1 : Value) (w : World) (R : Value → World → Prop) (E : Pan) : F48 x0 x1 w R E = callX Tryd.prog [.tmp 4] c48 h48 [x0, x1] w R E := by kernel_rfl
theorem g3Z {x0 x1 : Value} {w : World} {R : Value → World → Prop} {E : Pan} (h : F48 x0 x1 w R E) : Cv Tryd.prog 48 #[x0, x1] w R E := by
 refine i6 (args := [x0, x1]) (c := c48) (h := h48) (rs := [.tmp 4]) Tryd.func48 (by kernel_rfl) (by kernel_rfl) (Nat.le_of_ble_eq_true (by kernel_rfl)) (by kernel_rfl) (by kernel_rfl) (by kernel_rfl) ?_
 rw [← g3Y]
 exact h
def c9Q (x3 : Value) (w : World) (R : Value → World → Prop) (_E : Pan) : Prop :=
 ∀ _τ : Fr, (R x3 w)
def c9R (_x1 x3 x4 : Value) (w : World) (next2 : List Value → World → Prop) (_R : Value → World → Prop) (E : Pan) : Prop :=
 ∀ _τ : Fr, (opK Tryd.prog E (xBin .add 3 (.tmp 10) (.const (Value.int .i64 1)) x4 (Value.int .i64 1)) w fun b7G o8 =>
 next2 [x3, b7G] o8)
def d8D (x1 x3 x4 : Value) (w : World) (next2 : List Value → World → Prop) (j1 : List Value → World → Prop) (R : Value → World → Prop) (E : Pan) : Prop :=
 opK Tryd.prog E (xV (Instr.fieldAt 25 x1 0)) w fun a5N w_6 =>
 opK Tryd.prog E (xV (Instr.loadAt 22 a5N)) w_6 fun a9S w_8 =>
 opK Tryd.prog E (xBuiltin .len #[22] 3 [false] [a9S]) w_8 fun a7w o2 =>
 opK Tryd.prog E (xBin .lss 3 (.tmp 5) (.tmp 8) x4 a7w) o2 fun a7l o7 =>
 xcond a7l
 (xcut (fun b7P p9 => c9R x1 (nth b7P 0) x4 p9 next2 R E) fun j3 =>
 opK Tryd.prog E (xV (Instr.fieldAt 25 x1 0)) o7 fun a6Q r5 =>
 opK Tryd.prog E (xV (Instr.loadAt 22 a6Q)) r5 fun a6R p7 =>
 opK Tryd.prog E (xV (Instr.indexAt 22 a6R x4)) p7 fun b2k t1 =>
 opK Tryd.prog E (xV (Instr.fieldAt 67 b2k 1)) t1 fun b7H t8 =>
 opK Tryd.prog E (xV (Instr.loadAt 3 b7H)) t8 fun b7I v2 =>
 opK Tryd.prog E (xBin .gtr 3 (.tmp 17) (.const (Value.int .i64 0)) b7I (Value.int .i64 0)) v2 fun b7J y7 =>
 xcond b7J
 (opK Tryd.prog E (xV (Instr.fieldAt 25 x1 0)) y7 fun c9N A7 =>
 opK Tryd.prog E (xV (Instr.loadAt 22 c9N)) A7 fun b4B A4 =>
 opK Tryd.prog E (xV (Instr.indexAt 22 b4B x4)) A4 fun b7B A8 =>
 opK Tryd.prog E (xV (Instr.loadAt 67 b7B)) A8 fun b7C C9 =>
 opK Tryd.prog E (xV (Instr.buildSlice 22 1 #[(0, b7C)])) C9 fun a5w C0 =>
 opK Tryd.prog E (xBuiltin .append #[22, 22] 22 [false, false] [x3, a5w]) C0 fun c9O D3 =>
 j3 [c9O] D3)
 (j3 [x3] y7))
 (j1 [x3] o7)
def F49 (x0 : Value) (w : World) (R : Value → World → Prop) (E : Pan) : Prop :=
 opK Tryd.prog E (xV (Instr.box 25 x0)) w fun t7 w_2 =>
 xcut (fun l_3 w_4 => c9Q (nth l_3 0) w_4 R E) fun j1 =>
 xloop [3, 4] [(Value.slice none 0 0), (Value.int .i64 0)] w_2 fun τ_41 E9 next2 =>
 d8D t7 (τ_41 3) (τ_41 4) E9 next2 j1 R E
noncomputable def c49 : Code := Tryd.f49.body.getD .skip
def h49 : Hint := (.seq .none (.seq .none (.cut [3] (.seq .none (.block (.loop [3, 4] (.seq (.seq .none (.cond .none .none)) (.cut [3] (.block (.seq .none (.cond .none .none))) .none))))) (.seq .none .none))))
theorem g4a (x0 : Value) (w : World) (R : Value → World → Prop) (E : Pan) : F49 x0 w R E = callX Tryd.prog [.tmp 2] c49 h49 [x0] w R E := by kernel_rfl
theorem g4b {x0 : Value} {w : World} {R : Value → World → Prop} {E : Pan} (h : F49 x0 w R E) : Cv Tryd.prog 49 #[x0] w R E := by
 refine i6 (args := [x0]) (c := c49) (h := h49) (rs := [.tmp 2]) Tryd.func49 (by kernel_rfl) (by kernel_rfl) (Nat.le_of_ble_eq_true (by kernel_rfl)) (by kernel_rfl) (by kernel_rfl) (by kernel_rfl) ?_
 rw [← g4a]
 exact h
def d8E (x5 : Value) (w : World) (R : Value → World → Prop) (_E : Pan) : Prop :=
 ∀ _τ : Fr, (R (Value.tuple #[x5, (Value.string ⟨#[]⟩), (Value.int .i64 0)]) w)
def d8F (x5 x6 x13 x14 x15 : Value) (w : World) (next2 : List Value → World → Prop) (j1 : List Value → World → Prop) (R : Value → World → Prop) (E : Pan) : Prop :=
 opK Tryd.prog E (xBin .lss 3 (.tmp 15) (.tmp 14) x15 x14) w fun g4c o8 =>
 xcond g4c
 (opK Tryd.prog E (xV (Instr.indexAt 22 x13 x15)) o8 fun b2c p9 =>
 opK Tryd.prog E (xV (Instr.loadAt 67 b2c)) p9 fun b7k r5 =>
 opK Tryd.prog E (xV (Instr.alloc 67 true (.tuple #[]))) r5 fun b3O p7 =>
 opK Tryd.prog E (xU (Instr.storeAt 67 b3O b7k)) p7 fun _z_21 t1 =>
 opK Tryd.prog E (xV (Instr.loadAt 67 b3O)) t1 fun b7m t8 =>
 opK Tryd.prog E (xCall (Value.func (.func 103) #[] #[]) [b7m]) t8 fun c2z v2 =>
 opK Tryd.prog E (xV (Instr.lookup 158 x6 c2z false)) v2 fun c5X y7 =>
 opK Tryd.prog E (xBin .sub 3 (.tmp 23) (.const (Value.int .i64 1)) c5X (Value.int .i64 1)) y7 fun g4d A7 =>
 opK Tryd.prog E (xU (Instr.mapUpdate 158 x6 c2z g4d)) A7 fun _z_31 A4 =>
 opK Tryd.prog E (xV (Instr.fieldAt 67 b3O 0)) A4 fun g4e A8 =>
 opK Tryd.prog E (xV (Instr.loadAt 9 g4e)) A8 fun g4f C9 =>
 opK Tryd.prog E (xV (Instr.lookup 120 x5 g4f false)) C9 fun g4g C0 =>
 opK Tryd.prog E (xBin .neq 3 (.tmp 29) (.const (Value.int .i64 0)) g4g (Value.int .i64 0)) C0 fun g4h D3 =>
 xcond g4h
 (dX D3 fun c2W =>
 qP Tryd.prog (xV (Instr.fieldAt 67 b3O 0)) fun c1p =>
 qL Tryd.prog c2W (blk c1p) (xV (Instr.loadAt 9 c1p)) fun g4i =>
 R (Value.tuple #[(Value.map none), g4i, (Value.int .i64 60)]) c2W)
 (opK Tryd.prog E (xV (Instr.fieldAt 67 b3O 1)) D3 fun g4j b3X =>
 opK Tryd.prog E (xV (Instr.loadAt 3 g4j)) b3X fun g4k a9R =>
 opK Tryd.prog E (xBin .gtr 3 (.tmp 35) (.const (Value.int .i64 1024)) g4k (Value.int .i64 1024)) a9R fun g4l b2a =>
 xcond g4l
 (dX b2a fun G8 =>
 qP Tryd.prog (xV (Instr.fieldAt 67 b3O 0)) fun d8G =>
 qL Tryd.prog G8 (blk d8G) (xV (Instr.loadAt 9 d8G)) fun g4m =>
 R (Value.tuple #[(Value.map none), g4m, (Value.int .i64 61)]) G8)
 (opK Tryd.prog E (xV (Instr.lookup 158 x6 c2z false)) b2a fun g4n M3 =>
 opK Tryd.prog E (xBin .lss 3 (.tmp 42) (.const (Value.int .i64 0)) g4n (Value.int .i64 0)) M3 fun g4o M7 =>
 xcond g4o
 (dX M7 fun b9E =>
 qP Tryd.prog (xV (Instr.fieldAt 67 b3O 0)) fun d8H =>
 qL Tryd.prog b9E (blk d8H) (xV (Instr.loadAt 9 d8H)) fun g4p =>
 R (Value.tuple #[(Value.map none), g4p, (Value.int .i64 62)]) b9E)
 (opK Tryd.prog E (xV (Instr.fieldAt 67 b3O 0)) M7 fun g4q b5p =>
 opK Tryd.prog E (xV (Instr.loadAt 9 g4q)) b5p fun g4r c2X =>
 opK Tryd.prog E (xU (Instr.mapUpdate 120 x5 g4r c2z)) c2X fun _z_64 b7j =>
 opK Tryd.prog E (xBin .add 3 (.tmp 15) (.const (Value.int .i64 1)) x15 (Value.int .i64 1)) b7j fun g4s a6K =>
 next2 [g4s] a6K))))
 (j1 [] o8)
def F75 (x0 : Value) (w : World) (R : Value → World → Prop) (E : Pan) : Prop :=
 opK Tryd.prog E (xV (Instr.makeMap 120 none)) w fun a7k w_2 =>
 opK Tryd.prog E (xV (Instr.makeMap 158 none)) w_2 fun b1l w_4 =>
 opK Tryd.prog E (xU (Instr.mapUpdate 158 b1l (Value.int .i64 1) (Value.int .i64 32))) w_4 fun _z_5 w_6 =>
 opK Tryd.prog E (xU (Instr.mapUpdate 158 b1l (Value.int .i64 2) (Value.int .i64 16))) w_6 fun _z_7 w_8 =>
 xcut (fun _ o2 => d8E a7k o2 R E) fun j1 =>
 opK Tryd.prog E (xBuiltin .len #[22] 3 [false] [x0]) w_8 fun b1Z o7 =>
 xloop [15] [(Value.int .i64 0)] o7 fun τ_68 b5q next2 =>
 d8F a7k b1l x0 b1Z (τ_68 15) b5q next2 j1 R E
noncomputable def c75 : Code := Tryd.f75.body.getD .skip
def h75 : Hint := (.seq .none (.seq .none (.seq .none (.cut [] (.seq .none (.block (.loop [15] (.seq .none (.seq (.cond .none .none) (.seq (.block (.seq .none (.seq .none (.seq .none (.seq (.block (.seq .none (.cond (.seq (.reg [(0, 2147483648, 256), (1, 4294967296, 2147483648), (0, 4, 0), (7, 8, 4294967296), (15, 16, 0)] [2, 0, 2, 2, 2] (.early 0 (.early 2 (.load 1 (.early 3 (.early 4 .done)))))) .none) (.seq .none (.cond (.seq (.reg [(0, 137438953472, 256), (1, 274877906944, 137438953472), (0, 4, 0), (7, 8, 274877906944), (15, 16, 0)] [2, 0, 2, 2, 2] (.early 0 (.early 2 (.load 1 (.early 3 (.early 4 .done)))))) .none) (.seq .none (.cond (.seq (.reg [(0, 17592186044416, 256), (1, 35184372088832, 17592186044416), (0, 4, 0), (7, 8, 35184372088832), (15, 16, 0)] [2, 0, 2, 2, 2] (.early 0 (.early 2 (.load 1 (.early 3 (.early 4 .done)))))) .none) .none))))))) .none))))) .none)))))) (.seq .none .none)))))
theorem g4t (x0 : Value) (w : World) (R : Value → World → Prop) (E : Pan) : F75 x0 w R E = callX Tryd.prog [.tmp 2, .tmp 3, .tmp 4] c75 h75 [x0] w R E := by kernel_rfl
theorem g4u {x0 : Value} {w : World} {R : Value → World → Prop} {E : Pan} (h : F75 x0 w R E) : Cv Tryd.prog 75 #[x0] w R E := by
 refine i6 (args := [x0]) (c := c75) (h := h75) (rs := [.tmp 2, .tmp 3, .tmp 4]) Tryd.func75 (by kernel_rfl) (by kernel_rfl) (Nat.le_of_ble_eq_true (by kernel_rfl)) (by kernel_rfl) (by kernel_rfl) (by kernel_rfl) ?_
 rw [← g4t]
 exact h
def c9S (_x0 _x10 _x11 x12 : Value) (w : World) (next1 : List Value → World → Prop) (_R : Value → World → Prop) (E : Pan) : Prop :=
 ∀ _τ : Fr, (opK Tryd.prog E (xBin .add 3 (.tmp 12) (.const (Value.int .i64 1)) x12 (Value.int .i64 1)) w fun g9g w_6 =>
 next1 [g9g] w_6)
def c9T (x0 x5 _x10 _x11 _x12 : Value) (w : World) (j2 : List Value → World → Prop) (_R : Value → World → Prop) (E : Pan) : Prop :=
 ∀ _τ : Fr, (opK Tryd.prog E (xV (Instr.fieldAt 88 x5 4)) w fun g4v r5 =>
 opK Tryd.prog E (xV (Instr.loadAt 23 g4v)) r5 fun g4w p7 =>
 opK Tryd.prog E (xCall (Value.func (.func 76) #[] #[]) [x0, g4w]) p7 fun _t71_21 t1 =>
 opK Tryd.prog E (xV (Instr.fieldAt 88 x5 5)) t1 fun g4x t8 =>
 opK Tryd.prog E (xV (Instr.loadAt 23 g4x)) t8 fun g4y v2 =>
 opK Tryd.prog E (xCall (Value.func (.func 76) #[] #[]) [x0, g4y]) v2 fun _t75_27 y7 =>
 j2 [] y7)
def d8I (x0 _x5 _x10 _x11 _x12 x58 x59 x60 : Value) (w : World) (next6 : List Value → World → Prop) (j5 : List Value → World → Prop) (_R : Value → World → Prop) (E : Pan) : Prop :=
 opK Tryd.prog E (xBin .lss 3 (.tmp 60) (.tmp 59) x60 x59) w fun g4z C0 =>
 xcond g4z
 (opK Tryd.prog E (xV (Instr.indexAt 28 x58 x60)) C0 fun g4A D3 =>
 opK Tryd.prog E (xV (Instr.loadAt 30 g4A)) D3 fun g4B E9 =>
 opK Tryd.prog E (xV (Instr.alloc 30 true (.tuple #[]))) E9 fun e4h E4 =>
 opK Tryd.prog E (xU (Instr.storeAt 30 e4h g4B)) E4 fun _z_45 K8 =>
 opK Tryd.prog E (xV (Instr.loadAt 30 e4h)) K8 fun g4C J7 =>
 opK Tryd.prog E (xCall (Value.func (.func 105) #[] #[]) [x0, g4C]) J7 fun _t66_49 G8 =>
 opK Tryd.prog E (xBin .add 3 (.tmp 60) (.const (Value.int .i64 1)) x60 (Value.int .i64 1)) G8 fun c6y K5 =>
 next6 [c6y] K5)
 (j5 [] C0)
def c9U (x0 x5 x10 x11 x12 : Value) (w : World) (j2 : List Value → World → Prop) (R : Value → World → Prop) (E : Pan) : Prop :=
 ∀ _τ : Fr, (xcut (fun _ A7 => c9T x0 x5 x10 x11 x12 A7 j2 R E) fun j5 =>
 opK Tryd.prog E (xV (Instr.fieldAt 88 x5 2)) w fun g4D A4 =>
 opK Tryd.prog E (xV (Instr.loadAt 28 g4D)) A4 fun c1V A8 =>
 opK Tryd.prog E (xBuiltin .len #[28] 3 [false] [c1V]) A8 fun c8u C9 =>
 xloop [60] [(Value.int .i64 0)] C9 fun τ_53 M3 next6 =>
 d8I x0 x5 x10 x11 x12 c1V c8u (τ_53 60) M3 next6 j5 R E)
def d8J (x0 _x5 _x10 _x11 _x12 x47 x48 x49 : Value) (w : World) (next7 : List Value → World → Prop) (j4 : List Value → World → Prop) (_R : Value → World → Prop) (E : Pan) : Prop :=
 opK Tryd.prog E (xBin .lss 3 (.tmp 49) (.tmp 48) x49 x48) w fun g4E Q2 =>
 xcond g4E
 (opK Tryd.prog E (xV (Instr.indexAt 31 x47 x49)) Q2 fun g4F U0 =>
 opK Tryd.prog E (xV (Instr.loadAt 33 g4F)) U0 fun g4G a0d =>
 opK Tryd.prog E (xV (Instr.alloc 33 true (.tuple #[]))) a0d fun e4i N1 =>
 opK Tryd.prog E (xU (Instr.storeAt 33 e4i g4G)) N1 fun _z_71 W0 =>
 opK Tryd.prog E (xV (Instr.loadAt 33 e4i)) W0 fun g4H a0e =>
 opK Tryd.prog E (xCall (Value.func (.func 104) #[] #[]) [x0, g4H]) a0e fun _t55_75 Z7 =>
 opK Tryd.prog E (xBin .add 3 (.tmp 49) (.const (Value.int .i64 1)) x49 (Value.int .i64 1)) Z7 fun g4I W8 =>
 next7 [g4I] W8)
 (j4 [] Q2)
def c9V (x0 x5 x10 x11 x12 : Value) (w : World) (j2 : List Value → World → Prop) (R : Value → World → Prop) (E : Pan) : Prop :=
 ∀ _τ : Fr, (xcut (fun _ M7 => c9U x0 x5 x10 x11 x12 M7 j2 R E) fun j4 =>
 opK Tryd.prog E (xV (Instr.fieldAt 88 x5 3)) w fun c2y M8 =>
 opK Tryd.prog E (xV (Instr.loadAt 31 c2y)) M8 fun d8K P8 =>
 opK Tryd.prog E (xBuiltin .len #[31] 3 [false] [d8K]) P8 fun g4J T9 =>
 xloop [49] [(Value.int .i64 0)] T9 fun τ_79 a2v next7 =>
 d8J x0 x5 x10 x11 x12 d8K g4J (τ_79 49) a2v next7 j4 R E)
def d8L (x0 x10 x11 x12 : Value) (w : World) (next1 : List Value → World → Prop) (R : Value → World → Prop) (E : Pan) : Prop :=
 opK Tryd.prog E (xBin .lss 3 (.tmp 12) (.tmp 11) x12 x11) w fun c2b w_4 =>
 xcond c2b
 (xcut (fun _ w_8 => c9S x0 x10 x11 x12 w_8 next1 R E) fun j2 =>
 opK Tryd.prog E (xV (Instr.indexAt 23 x10 x12)) w_4 fun a7j o2 =>
 opK Tryd.prog E (xV (Instr.loadAt 88 a7j)) o2 fun b2b o7 =>
 opK Tryd.prog E (xV (Instr.alloc 88 true (.tuple #[]))) o7 fun c2A o8 =>
 opK Tryd.prog E (xU (Instr.storeAt 88 c2A b2b)) o8 fun _z_15 p9 =>
 xcut (fun _ a2U => c9V x0 c2A x10 x11 x12 a2U j2 R E) fun j3 =>
 opK Tryd.prog E (xV (Instr.fieldAt 88 c2A 0)) p9 fun g4K a3l =>
 opK Tryd.prog E (xV (Instr.loadAt 3 g4K)) a3l fun d8M a3m =>
 opK Tryd.prog E (xBin .eql 3 (.tmp 17) (.const (Value.int .i64 1)) d8M (Value.int .i64 1)) a3m fun g4L a2e =>
 xcond g4L
 (dX a2e fun d5u =>
 qP Tryd.prog (xNil x0) fun g4M =>
 qP Tryd.prog (xV (Instr.fieldAt 126 g4M 0)) fun c9W =>
 qP Tryd.prog (xV (Instr.fieldAt 88 c2A 1)) fun d8N =>
 qL Tryd.prog d5u (blk c9W) (xV (Instr.loadAt 124 c9W)) fun g4N =>
 qL Tryd.prog d5u (blk d8N) (xV (Instr.loadAt 9 d8N)) fun g4O =>
 qP Tryd.prog (xV (Instr.build 128 #[(0, g4O), (1, (Value.int .i64 1))])) fun g4P =>
 opK Tryd.prog E (xV (Instr.buildSlice 124 1 #[(0, g4P)])) d5u fun g4Q e2V =>
 keepX [(blk c9W)] d5u e2V (opK Tryd.prog E (xBuiltin .append #[124, 124] 124 [false, false] [g4N, g4Q]) e2V fun g4R d4q =>
 keepX [] e2V d4q (qP Tryd.prog (xNil x0) fun e8Q =>
 qP Tryd.prog (xV (Instr.fieldAt 126 e8Q 0)) fun c4h =>
 opK Tryd.prog E (xU (Instr.storeAt 124 c4h g4R)) d4q fun _z_102 e4j =>
 keepX [] d4q e4j (j3 [] e4j))))
 (opK Tryd.prog E (xBin .eql 3 (.tmp 17) (.const (Value.int .i64 2)) d8M (Value.int .i64 2)) a2e fun e8R e4k =>
 xcond e8R
 (dX e4k fun a0Z =>
 qP Tryd.prog (xNil x0) fun e8S =>
 qP Tryd.prog (xV (Instr.fieldAt 126 e8S 0)) fun c4o =>
 qP Tryd.prog (xV (Instr.fieldAt 88 c2A 1)) fun d1q =>
 qL Tryd.prog a0Z (blk c4o) (xV (Instr.loadAt 124 c4o)) fun e8T =>
 qL Tryd.prog a0Z (blk d1q) (xV (Instr.loadAt 9 d1q)) fun e8U =>
 qP Tryd.prog (xV (Instr.build 128 #[(0, e8U), (1, (Value.int .i64 2))])) fun e8V =>
 opK Tryd.prog E (xV (Instr.buildSlice 124 1 #[(0, e8V)])) a0Z fun e8W a2j =>
 keepX [(blk c4o)] a0Z a2j (opK Tryd.prog E (xBuiltin .append #[124, 124] 124 [false, false] [e8T, e8W]) a2j fun e8X a3e =>
 keepX [] a2j a3e (qP Tryd.prog (xNil x0) fun e8Y =>
 qP Tryd.prog (xV (Instr.fieldAt 126 e8Y 0)) fun e8Z =>
 opK Tryd.prog E (xU (Instr.storeAt 124 e8Z e8X)) a3e fun _z_119 a3f =>
 keepX [] a3e a3f (j3 [] a3f))))
 (j3 [] e4k)))
 (R (Value.tuple #[]) w_4)
def F76 (x0 x1 : Value) (w : World) (R : Value → World → Prop) (E : Pan) : Prop :=
 opK Tryd.prog E (xBuiltin .len #[23] 3 [false] [x1]) w fun g9h w_2 =>
 xloop [12] [(Value.int .i64 0)] w_2 fun τ_121 a5O next1 =>
 d8L x0 x1 g9h (τ_121 12) a5O next1 R E
noncomputable def c76 : Code := Tryd.f76.body.getD .skip
def h76 : Hint := (.seq .none (.block (.loop [12] (.seq .none (.seq (.cond .none .none) (.cut [] (.block (.seq .none (.cut [] (.seq .none (.block (.seq .none (.cond (.reg [(0, 1048576, 1), (0, 2097152, 1), (2, 4194304, 2097152), (4, 8388608, 4194304), (8, 16777216, 8388608), (0, 33554432, 32), (32, 67108864, 33554432), (64, 134217728, 67108864), (128, 268435456, 134217728), (272, 536870912, 285212672), (1023, 1073741824, 1048576), (2047, 2147483648, 1073741824), (3071, 0, 2684354560)] [80, 80, 80, 80, 64, 80, 16, 80, 16, 0, 80, 80, 0] (.early 0 (.early 1 (.early 2 (.early 3 (.early 5 (.load 4 (.load 6 (.early 7 (.step 8 (.step 9 (.early 10 (.early 11 (.step 12 .done)))))))))))))) (.seq .none (.cond (.reg [(0, 17179869184, 1), (0, 34359738368, 1), (2, 68719476736, 34359738368), (4, 137438953472, 68719476736), (8, 274877906944, 137438953472), (0, 549755813888, 32), (32, 1099511627776, 549755813888), (64, 2199023255552, 1099511627776), (128, 4398046511104, 2199023255552), (272, 8796093022208, 4672924418048), (1023, 17592186044416, 17179869184), (2047, 35184372088832, 17592186044416), (3071, 0, 43980465111040)] [80, 80, 80, 80, 64, 80, 16, 80, 16, 0, 80, 80, 0] (.early 0 (.early 1 (.early 2 (.early 3 (.early 5 (.load 4 (.load 6 (.early 7 (.step 8 (.step 9 (.early 10 (.early 11 (.step 12 .done)))))))))))))) .none)))))) (.cut [] (.seq .none (.block (.loop [49] (.seq .none (.seq (.cond .none .none) (.seq (.block (.seq .none .none)) .none)))))) (.cut [] (.seq .none (.block (.loop [60] (.seq .none (.seq (.cond .none .none) (.seq (.block (.seq .none .none)) .none)))))) (.seq .none .none)))))) .none))))))
theorem g4S (x0 x1 : Value) (w : World) (R : Value → World → Prop) (E : Pan) : F76 x0 x1 w R E = callX Tryd.prog [] c76 h76 [x0, x1] w R E := by kernel_rfl
theorem g4T {x0 x1 : Value} {w : World} {R : Value → World → Prop} {E : Pan} (h : F76 x0 x1 w R E) : Cv Tryd.prog 76 #[x0, x1] w R E := by
 refine i6 (args := [x0, x1]) (c := c76) (h := h76) (rs := []) Tryd.func76 (by kernel_rfl) (by kernel_rfl) (Nat.le_of_ble_eq_true (by kernel_rfl)) (by kernel_rfl) (by kernel_rfl) (by kernel_rfl) ?_
 rw [← g4S]
 exact h
def c9X (w : World) (R : Value → World → Prop) (_E : Pan) : Prop :=
 ∀ _τ : Fr, (R (Value.int .i64 (-1)) w)
def d8O (x0 x1 x5 : Value) (w : World) (next2 : List Value → World → Prop) (j1 : List Value → World → Prop) (R : Value → World → Prop) (E : Pan) : Prop :=
 opK Tryd.prog E (xBuiltin .len #[22] 3 [false] [x0]) w fun b7t w_4 =>
 opK Tryd.prog E (xBin .lss 3 (.tmp 6) (.tmp 8) x5 b7t) w_4 fun b9H w_6 =>
 xcond b9H
 (opK Tryd.prog E (xV (Instr.indexAt 22 x0 x5)) w_6 fun b1n w_8 =>
 opK Tryd.prog E (xV (Instr.fieldAt 67 b1n 0)) w_8 fun b0x o2 =>
 opK Tryd.prog E (xV (Instr.loadAt 9 b0x)) o2 fun a1H o7 =>
 opK Tryd.prog E (xBin .eql 9 (.tmp 16) (.tmp 17) a1H x1) o7 fun a5v o8 =>
 xcond a5v
 (R x5 o8)
 (opK Tryd.prog E (xBin .add 3 (.tmp 10) (.const (Value.int .i64 1)) x5 (Value.int .i64 1)) o8 fun a8L p9 =>
 next2 [a8L] p9))
 (j1 [] w_6)
def F81 (x0 x1 : Value) (w : World) (R : Value → World → Prop) (E : Pan) : Prop :=
 xcut (fun _ w_2 => c9X w_2 R E) fun j1 =>
 xloop [5] [(Value.int .i64 0)] w fun τ_17 r5 next2 =>
 d8O x0 x1 (τ_17 5) r5 next2 j1 R E
noncomputable def c81 : Code := Tryd.f81.body.getD .skip
def h81 : Hint := (.seq .none (.cut [] (.seq .none (.block (.loop [5] (.seq (.seq .none (.cond .none .none)) (.seq (.block (.seq .none (.cond (.seq .none .none) .none))) .none))))) (.seq .none .none)))
theorem g4U (x0 x1 : Value) (w : World) (R : Value → World → Prop) (E : Pan) : F81 x0 x1 w R E = callX Tryd.prog [.tmp 4] c81 h81 [x0, x1] w R E := by kernel_rfl
theorem g4V {x0 x1 : Value} {w : World} {R : Value → World → Prop} {E : Pan} (h : F81 x0 x1 w R E) : Cv Tryd.prog 81 #[x0, x1] w R E := by
 refine i6 (args := [x0, x1]) (c := c81) (h := h81) (rs := [.tmp 4]) Tryd.func81 (by kernel_rfl) (by kernel_rfl) (Nat.le_of_ble_eq_true (by kernel_rfl)) (by kernel_rfl) (by kernel_rfl) (by kernel_rfl) ?_
 rw [← g4U]
 exact h
def F82 (x0 x1 : Value) (w : World) (R : Value → World → Prop) (E : Pan) : Prop :=
 opK Tryd.prog E (xV (Instr.box 25 x0)) w fun a4A w_2 =>
 opK Tryd.prog E (xV (Instr.box 3 x1)) w_2 fun T8 w_4 =>
 opK Tryd.prog E (xV (Instr.loadAt 25 a4A)) w_4 fun b9H w_6 =>
 opK Tryd.prog E (xCall (Value.func (.func 39) #[] #[]) [b9H]) w_6 fun e4l w_8 =>
 opK Tryd.prog E (xV (Instr.extract e4l 0)) w_8 fun _t11_9 o2 =>
 opK Tryd.prog E (xV (Instr.extract e4l 1)) o2 fun c1n o7 =>
 opK Tryd.prog E (xBin .neq 34 (.tmp 13) (.const (Value.int .i64 0)) c1n (Value.int .i64 0)) o7 fun g4W o8 =>
 xcond g4W
 (R (Value.tuple #[(Value.slice none 0 0), c1n]) o8)
 (opK Tryd.prog E (xV (Instr.fieldAt 25 a4A 0)) o8 fun a6L p9 =>
 opK Tryd.prog E (xV (Instr.loadAt 22 a6L)) p9 fun a6M r5 =>
 opK Tryd.prog E (xCall (Value.func (.func 77) #[] #[]) [a6M]) r5 fun a6N p7 =>
 opK Tryd.prog E (xV (Instr.makeFunc (.func 113) #[] #[T8])) p7 fun a6O t1 =>
 opK Tryd.prog E (xCall (Value.func (.func 112) #[] #[]) [a6N, a6O]) t1 fun a6P t8 =>
 R (Value.tuple #[a6P, (Value.int .i64 0)]) t8)
noncomputable def c82 : Code := Tryd.f82.body.getD .skip
def h82 : Hint := (.seq .none (.seq (.seq .none (.seq .none (.cond (.seq .none .none) .none))) (.seq .none .none)))
theorem g4X (x0 x1 : Value) (w : World) (R : Value → World → Prop) (E : Pan) : F82 x0 x1 w R E = callX Tryd.prog [.tmp 4, .tmp 5] c82 h82 [x0, x1] w R E := by kernel_rfl
theorem g4Y {x0 x1 : Value} {w : World} {R : Value → World → Prop} {E : Pan} (h : F82 x0 x1 w R E) : Cv Tryd.prog 82 #[x0, x1] w R E := by
 refine i6 (args := [x0, x1]) (c := c82) (h := h82) (rs := [.tmp 4, .tmp 5]) Tryd.func82 (by kernel_rfl) (by kernel_rfl) (Nat.le_of_ble_eq_true (by kernel_rfl)) (by kernel_rfl) (by kernel_rfl) (by kernel_rfl) ?_
 rw [← g4X]
 exact h
def d5v (x0 : Value) (w : World) (R : Value → World → Prop) (E : Pan) : Prop :=
 opK Tryd.prog E (xV (Instr.box 67 x0)) w fun t7 w_2 =>
 opK Tryd.prog E (xV (Instr.fieldAt 67 t7 1)) w_2 fun T8 w_4 =>
 opK Tryd.prog E (xV (Instr.loadAt 3 T8)) w_4 fun a3k w_6 =>
 opK Tryd.prog E (xBin .gtr 3 (.tmp 4) (.const (Value.int .i64 0)) a3k (Value.int .i64 0)) w_6 fun a5K w_8 =>
 xcond a5K
 (R (Value.int .i64 2) w_8)
 (R (Value.int .i64 1) w_8)
noncomputable def g4Z : Code := Tryd.f103.body.getD .skip
def g5a : Hint := (.seq .none (.seq (.seq .none (.cond (.seq .none .none) .none)) (.seq .none .none)))
theorem e9a (x0 : Value) (w : World) (R : Value → World → Prop) (E : Pan) : d5v x0 w R E = callX Tryd.prog [.tmp 2] g4Z g5a [x0] w R E := by kernel_rfl
theorem e9b {x0 : Value} {w : World} {R : Value → World → Prop} {E : Pan} (h : d5v x0 w R E) : Cv Tryd.prog 103 #[x0] w R E := by
 refine i6 (args := [x0]) (c := g4Z) (h := g5a) (rs := [.tmp 2]) Tryd.func103 (by kernel_rfl) (by kernel_rfl) (Nat.le_of_ble_eq_true (by kernel_rfl)) (by kernel_rfl) (by kernel_rfl) (by kernel_rfl) ?_
 rw [← e9a]
 exact h
def d1r (x0 x20 x21 x22 : Value) (w : World) (next2 : List Value → World → Prop) (R : Value → World → Prop) (E : Pan) : Prop :=
 opK Tryd.prog E (xBin .lss 3 (.tmp 22) (.tmp 21) x22 x21) w fun g9i o2 =>
 xcond g9i
 (opK Tryd.prog E (xV (Instr.indexAt 31 x20 x22)) o2 fun g5b o7 =>
 opK Tryd.prog E (xV (Instr.loadAt 33 g5b)) o7 fun g5c o8 =>
 opK Tryd.prog E (xV (Instr.alloc 33 true (.tuple #[]))) o8 fun e4m p9 =>
 opK Tryd.prog E (xU (Instr.storeAt 33 e4m g5c)) p9 fun _z_17 r5 =>
 opK Tryd.prog E (xV (Instr.loadAt 33 e4m)) r5 fun g5d p7 =>
 opK Tryd.prog E (xCall (Value.func (.func 104) #[] #[]) [x0, g5d]) p7 fun _t28_21 t1 =>
 opK Tryd.prog E (xBin .add 3 (.tmp 22) (.const (Value.int .i64 1)) x22 (Value.int .i64 1)) t1 fun c9r t8 =>
 next2 [c9r] t8)
 (R (Value.tuple #[]) o2)
def c4p (x0 x3 : Value) (w : World) (R : Value → World → Prop) (E : Pan) : Prop :=
 ∀ _τ : Fr, (opK Tryd.prog E (xV (Instr.fieldAt 33 x3 3)) w fun g9j w_4 =>
 opK Tryd.prog E (xV (Instr.loadAt 31 g9j)) w_4 fun e4n w_6 =>
 opK Tryd.prog E (xBuiltin .len #[31] 3 [false] [e4n]) w_6 fun g9k w_8 =>
 xloop [22] [(Value.int .i64 0)] w_8 fun τ_25 v2 next2 =>
 d1r x0 e4n g9k (τ_25 22) v2 next2 R E)
def d1s (x0 _x3 x9 x10 x11 : Value) (w : World) (next3 : List Value → World → Prop) (j1 : List Value → World → Prop) (_R : Value → World → Prop) (E : Pan) : Prop :=
 opK Tryd.prog E (xBin .lss 3 (.tmp 11) (.tmp 10) x11 x10) w fun g5e C9 =>
 xcond g5e
 (opK Tryd.prog E (xV (Instr.indexAt 28 x9 x11)) C9 fun b8p C0 =>
 opK Tryd.prog E (xV (Instr.loadAt 30 b8p)) C0 fun c9Y D3 =>
 opK Tryd.prog E (xV (Instr.alloc 30 true (.tuple #[]))) D3 fun e4o E9 =>
 opK Tryd.prog E (xU (Instr.storeAt 30 e4o c9Y)) E9 fun _z_43 E4 =>
 opK Tryd.prog E (xV (Instr.loadAt 30 e4o)) E4 fun b4C K8 =>
 opK Tryd.prog E (xCall (Value.func (.func 105) #[] #[]) [x0, b4C]) K8 fun _t17_47 J7 =>
 opK Tryd.prog E (xBin .add 3 (.tmp 11) (.const (Value.int .i64 1)) x11 (Value.int .i64 1)) J7 fun b4D G8 =>
 next3 [b4D] G8)
 (j1 [] C9)
def d5w (x0 x1 : Value) (w : World) (R : Value → World → Prop) (E : Pan) : Prop :=
 opK Tryd.prog E (xV (Instr.box 33 x1)) w fun a1U w_2 =>
 xcut (fun _ y7 => c4p x0 a1U y7 R E) fun j1 =>
 opK Tryd.prog E (xV (Instr.fieldAt 33 a1U 2)) w_2 fun d5c A7 =>
 opK Tryd.prog E (xV (Instr.loadAt 28 d5c)) A7 fun c5m A4 =>
 opK Tryd.prog E (xBuiltin .len #[28] 3 [false] [c5m]) A4 fun c9q A8 =>
 xloop [11] [(Value.int .i64 0)] A8 fun τ_51 K5 next3 =>
 d1s x0 a1U c5m c9q (τ_51 11) K5 next3 j1 R E
noncomputable def g5f : Code := Tryd.f104.body.getD .skip
def g5g : Hint := (.seq .none (.cut [] (.seq .none (.block (.loop [11] (.seq .none (.seq (.cond .none .none) (.seq (.block (.seq .none .none)) .none)))))) (.seq .none (.block (.loop [22] (.seq .none (.seq (.cond .none .none) (.seq (.block (.seq .none .none)) .none))))))))
theorem e9c (x0 x1 : Value) (w : World) (R : Value → World → Prop) (E : Pan) : d5w x0 x1 w R E = callX Tryd.prog [] g5f g5g [x0, x1] w R E := by kernel_rfl
theorem e9d {x0 x1 : Value} {w : World} {R : Value → World → Prop} {E : Pan} (h : d5w x0 x1 w R E) : Cv Tryd.prog 104 #[x0, x1] w R E := by
 refine i6 (args := [x0, x1]) (c := g5f) (h := g5g) (rs := []) Tryd.func104 (by kernel_rfl) (by kernel_rfl) (Nat.le_of_ble_eq_true (by kernel_rfl)) (by kernel_rfl) (by kernel_rfl) (by kernel_rfl) ?_
 rw [← e9c]
 exact h
def d1t (x0 x37 x38 x39 : Value) (w : World) (next2 : List Value → World → Prop) (R : Value → World → Prop) (E : Pan) : Prop :=
 opK Tryd.prog E (xBin .lss 3 (.tmp 39) (.tmp 38) x39 x38) w fun d3E o2 =>
 xcond d3E
 (opK Tryd.prog E (xV (Instr.indexAt 28 x37 x39)) o2 fun c8s o7 =>
 opK Tryd.prog E (xV (Instr.loadAt 30 c8s)) o7 fun c1U o8 =>
 opK Tryd.prog E (xV (Instr.alloc 30 true (.tuple #[]))) o8 fun e4p p9 =>
 opK Tryd.prog E (xU (Instr.storeAt 30 e4p c1U)) p9 fun _z_17 r5 =>
 opK Tryd.prog E (xV (Instr.loadAt 30 e4p)) r5 fun c6e p7 =>
 opK Tryd.prog E (xCall (Value.func (.func 105) #[] #[]) [x0, c6e]) p7 fun _t45_21 t1 =>
 opK Tryd.prog E (xBin .add 3 (.tmp 39) (.const (Value.int .i64 1)) x39 (Value.int .i64 1)) t1 fun c6f t8 =>
 next2 [c6f] t8)
 (R (Value.tuple #[]) o2)
def c4q (x0 x3 : Value) (w : World) (R : Value → World → Prop) (E : Pan) : Prop :=
 ∀ _τ : Fr, (opK Tryd.prog E (xV (Instr.fieldAt 30 x3 3)) w fun g9l w_4 =>
 opK Tryd.prog E (xV (Instr.loadAt 28 g9l)) w_4 fun e4q w_6 =>
 opK Tryd.prog E (xBuiltin .len #[28] 3 [false] [e4q]) w_6 fun g9m w_8 =>
 xloop [39] [(Value.int .i64 0)] w_8 fun τ_25 v2 next2 =>
 d1t x0 e4q g9m (τ_25 39) v2 next2 R E)
def d5x (x0 x1 : Value) (w : World) (R : Value → World → Prop) (E : Pan) : Prop :=
 opK Tryd.prog E (xV (Instr.box 30 x1)) w fun a1U w_2 =>
 xcut (fun _ y7 => c4q x0 a1U y7 R E) fun j1 =>
 opK Tryd.prog E (xV (Instr.fieldAt 30 a1U 0)) w_2 fun d5f A7 =>
 opK Tryd.prog E (xV (Instr.loadAt 3 d5f)) A7 fun c5n A4 =>
 opK Tryd.prog E (xBin .eql 3 (.tmp 7) (.const (Value.int .i64 2)) c5n (Value.int .i64 2)) A4 fun g9n A8 =>
 xcond g9n
 (dX A8 fun a8G =>
 qP Tryd.prog (xNil x0) fun g5h =>
 qP Tryd.prog (xV (Instr.fieldAt 126 g5h 0)) fun b8p =>
 qP Tryd.prog (xV (Instr.fieldAt 30 a1U 2)) fun d8P =>
 qL Tryd.prog a8G (blk b8p) (xV (Instr.loadAt 124 b8p)) fun c9Y =>
 qL Tryd.prog a8G (blk d8P) (xV (Instr.loadAt 9 d8P)) fun g5i =>
 qP Tryd.prog (xV (Instr.build 128 #[(0, g5i), (1, (Value.int .i64 1))])) fun g5j =>
 opK Tryd.prog E (xV (Instr.buildSlice 124 1 #[(0, g5j)])) a8G fun g5k b7h =>
 keepX [(blk b8p)] a8G b7h (opK Tryd.prog E (xBuiltin .append #[124, 124] 124 [false, false] [c9Y, g5k]) b7h fun g5l b3X =>
 keepX [] b7h b3X (qP Tryd.prog (xNil x0) fun g5m =>
 qP Tryd.prog (xV (Instr.fieldAt 126 g5m 0)) fun g5n =>
 opK Tryd.prog E (xU (Instr.storeAt 124 g5n g5l)) b3X fun _z_48 b2a =>
 keepX [] b3X b2a (j1 [] b2a))))
 (opK Tryd.prog E (xBin .eql 3 (.tmp 7) (.const (Value.int .i64 4)) c5n (Value.int .i64 4)) A8 fun g5o b7i =>
 xcond g5o
 (dX b7i fun K5 =>
 qP Tryd.prog (xNil x0) fun g5p =>
 qP Tryd.prog (xV (Instr.fieldAt 126 g5p 0)) fun c9Z =>
 qP Tryd.prog (xV (Instr.fieldAt 30 a1U 2)) fun d8Q =>
 qL Tryd.prog K5 (blk c9Z) (xV (Instr.loadAt 124 c9Z)) fun g5q =>
 qL Tryd.prog K5 (blk d8Q) (xV (Instr.loadAt 9 d8Q)) fun g5r =>
 qP Tryd.prog (xV (Instr.build 128 #[(0, g5r), (1, (Value.int .i64 2))])) fun g5s =>
 opK Tryd.prog E (xV (Instr.buildSlice 124 1 #[(0, g5s)])) K5 fun c7b P8 =>
 keepX [(blk c9Z)] K5 P8 (opK Tryd.prog E (xBuiltin .append #[124, 124] 124 [false, false] [g5q, c7b]) P8 fun b4E T9 =>
 keepX [] P8 T9 (qP Tryd.prog (xNil x0) fun b7F =>
 qP Tryd.prog (xV (Instr.fieldAt 126 b7F 0)) fun g5t =>
 opK Tryd.prog E (xU (Instr.storeAt 124 g5t b4E)) T9 fun _z_65 U0 =>
 keepX [] T9 U0 (j1 [] U0))))
 (j1 [] b7i))
noncomputable def g5u : Code := Tryd.f105.body.getD .skip
def g5v : Hint := (.seq .none (.cut [] (.seq .none (.block (.seq .none (.cond (.reg [(0, 1024, 1), (0, 2048, 1), (2, 4096, 2048), (4, 8192, 4096), (8, 16384, 8192), (0, 32768, 8), (32, 65536, 32768), (64, 131072, 65536), (128, 262144, 131072), (272, 524288, 278528), (1023, 1048576, 1024), (2047, 2097152, 1048576), (3071, 0, 2621440)] [80, 80, 80, 80, 64, 80, 16, 80, 16, 0, 80, 80, 0] (.early 0 (.early 1 (.early 2 (.early 3 (.early 5 (.load 4 (.load 6 (.early 7 (.step 8 (.step 9 (.early 10 (.early 11 (.step 12 .done)))))))))))))) (.seq .none (.cond (.reg [(0, 16777216, 1), (0, 33554432, 1), (2, 67108864, 33554432), (4, 134217728, 67108864), (8, 268435456, 134217728), (0, 536870912, 8), (32, 1073741824, 536870912), (64, 2147483648, 1073741824), (128, 4294967296, 2147483648), (272, 8589934592, 4563402752), (1023, 17179869184, 16777216), (2047, 34359738368, 17179869184), (3071, 0, 42949672960)] [80, 80, 80, 80, 64, 80, 16, 80, 16, 0, 80, 80, 0] (.early 0 (.early 1 (.early 2 (.early 3 (.early 5 (.load 4 (.load 6 (.early 7 (.step 8 (.step 9 (.early 10 (.early 11 (.step 12 .done)))))))))))))) .none)))))) (.seq .none (.block (.loop [39] (.seq .none (.seq (.cond .none .none) (.seq (.block (.seq .none .none)) .none))))))))
theorem e9e (x0 x1 : Value) (w : World) (R : Value → World → Prop) (E : Pan) : d5x x0 x1 w R E = callX Tryd.prog [] g5u g5v [x0, x1] w R E := by kernel_rfl
theorem e9f {x0 x1 : Value} {w : World} {R : Value → World → Prop} {E : Pan} (h : d5x x0 x1 w R E) : Cv Tryd.prog 105 #[x0, x1] w R E := by
 refine i6 (args := [x0, x1]) (c := g5u) (h := g5v) (rs := []) Tryd.func105 (by kernel_rfl) (by kernel_rfl) (Nat.le_of_ble_eq_true (by kernel_rfl)) (by kernel_rfl) (by kernel_rfl) (by kernel_rfl) ?_
 rw [← e9e]
 exact h
def d1u (x0 x5 : Value) (w : World) (R : Value → World → Prop) (E : Pan) : Prop :=
 ∀ _τ : Fr, (opK Tryd.prog E (xV (Instr.sliceAt 22 x0 (some x5) none none)) w fun g9o w_6 =>
 opK Tryd.prog E (xBuiltin .clear #[22] 0 [false] [g9o]) w_6 fun _z_7 w_8 =>
 opK Tryd.prog E (xV (Instr.sliceAt 22 x0 none (some x5) none)) w_8 fun g9p o2 =>
 R g9p o2)
def c4r (_x0 _x1 x5 x6 : Value) (w : World) (next2 : List Value → World → Prop) (_R : Value → World → Prop) (E : Pan) : Prop :=
 ∀ _τ : Fr, (opK Tryd.prog E (xBin .add 3 (.tmp 20) (.const (Value.int .i64 1)) x6 (Value.int .i64 1)) w fun b2f p7 =>
 next2 [x5, b2f] p7)
def d1v (x0 x1 x5 x6 : Value) (w : World) (next2 : List Value → World → Prop) (j1 : List Value → World → Prop) (R : Value → World → Prop) (E : Pan) : Prop :=
 opK Tryd.prog E (xBuiltin .len #[22] 3 [false] [x0]) w fun b7g p9 =>
 opK Tryd.prog E (xBin .lss 3 (.tmp 16) (.tmp 18) x6 b7g) p9 fun c5Z r5 =>
 xcond c5Z
 (xcut (fun h3P t1 => c4r x0 x1 (nth h3P 0) x6 t1 next2 R E) fun j3 =>
 opK Tryd.prog E (xV (Instr.indexAt 22 x0 x6)) r5 fun c9D t8 =>
 opK Tryd.prog E (xV (Instr.loadAt 67 c9D)) t8 fun c2u v2 =>
 opK Tryd.prog E (xV (Instr.alloc 67 true (.tuple #[]))) v2 fun c1s y7 =>
 opK Tryd.prog E (xU (Instr.storeAt 67 c1s c2u)) y7 fun _z_29 A7 =>
 opK Tryd.prog E (xV (Instr.loadAt 67 c1s)) A7 fun c6n A4 =>
 opK Tryd.prog E (xCall x1 [c6n]) A4 fun c6o A8 =>
 opK Tryd.prog E (xV (Op.unary .not c6o)) A8 fun g5w C9 =>
 xcond g5w
 (opK Tryd.prog E (xV (Instr.loadAt 67 c1s)) C9 fun c9E C0 =>
 opK Tryd.prog E (xV (Instr.indexAt 22 x0 x5)) C0 fun g5x D3 =>
 opK Tryd.prog E (xU (Instr.storeAt 67 g5x c9E)) D3 fun _z_41 E9 =>
 opK Tryd.prog E (xBin .add 3 (.tmp 34) (.const (Value.int .i64 1)) x5 (Value.int .i64 1)) E9 fun c6p E4 =>
 j3 [c6p] E4)
 (j3 [x5] C9))
 (j1 [x5] r5)
def e2W (x0 x1 : Value) (w : World) (R : Value → World → Prop) (E : Pan) : Prop :=
 opK Tryd.prog E (xCall (Value.func (.func 121) #[] #[]) [x0, x1]) w fun a7k w_2 =>
 opK Tryd.prog E (xBin .eql 3 (.tmp 11) (.const (Value.int .i64 (-1))) a7k (Value.int .i64 (-1))) w_2 fun b5v w_4 =>
 xcond b5v
 (R x0 w_4)
 (xcut (fun b7x o7 => d1u x0 (nth b7x 0) o7 R E) fun j1 =>
 opK Tryd.prog E (xBin .add 3 (.tmp 14) (.const (Value.int .i64 1)) a7k (Value.int .i64 1)) w_4 fun a5u o8 =>
 xloop [5, 6] [a7k, a5u] o8 fun τ_45 K8 next2 =>
 d1v x0 x1 (τ_45 5) (τ_45 6) K8 next2 j1 R E)
noncomputable def g5y : Code := Tryd.f112.body.getD .skip
def g5z : Hint := (.seq .none (.seq .none (.seq (.seq .none (.cond (.seq .none .none) .none)) (.cut [5] (.seq .none (.block (.loop [5, 6] (.seq (.seq .none (.cond .none .none)) (.cut [5] (.block (.seq .none (.seq .none (.cond (.seq .none .none) .none)))) .none))))) (.seq .none (.seq .none .none))))))
theorem e9g (x0 x1 : Value) (w : World) (R : Value → World → Prop) (E : Pan) : e2W x0 x1 w R E = callX Tryd.prog [.tmp 4] g5y g5z [x0, x1] w R E := by kernel_rfl
theorem e9h {x0 x1 : Value} {w : World} {R : Value → World → Prop} {E : Pan} (h : e2W x0 x1 w R E) : Cv Tryd.prog 112 #[x0, x1] w R E := by
 refine i6 (args := [x0, x1]) (c := g5y) (h := g5z) (rs := [.tmp 4]) Tryd.func112 (by kernel_rfl) (by kernel_rfl) (Nat.le_of_ble_eq_true (by kernel_rfl)) (by kernel_rfl) (by kernel_rfl) (by kernel_rfl) ?_
 rw [← e9g]
 exact h
def e2X (x0 x1 : Value) (w : World) (R : Value → World → Prop) (E : Pan) : Prop :=
 opK Tryd.prog E (xV (Instr.box 67 x0)) w fun a4A w_2 =>
 dX w_2 fun w_3 =>
 qL Tryd.prog w_3 (blk a4A) (xV (Instr.loadAt 67 a4A)) fun h3Q =>
 qL Tryd.prog w_3 (blk x1) (xV (Instr.loadAt 3 x1)) fun a5N =>
 opK Tryd.prog E (xCall (Value.func (.func 103) #[] #[]) [h3Q]) w_3 fun a6I w_7 =>
 keepX [(blk x1)] w_3 w_7 (qP Tryd.prog (xBin .neq 3 (.tmp 5) (.tmp 6) a6I a5N) fun c5U =>
 R c5U w_7)
noncomputable def g5A : Code := Tryd.f113.body.getD .skip
def g5B : Hint := (.seq .none (.seq (.reg [(0, 16, 4), (1, 32, 16), (0, 64, 2), (6, 128, 96), (15, 8, 128)] [4, 4, 1, 5, 5] (.load 0 (.load 2 (.step 1 (.early 3 (.early 4 .done)))))) .none))
theorem e9i (x0 x1 : Value) (w : World) (R : Value → World → Prop) (E : Pan) : e2X x0 x1 w R E = callX Tryd.prog [.tmp 3] g5A g5B [x0, x1] w R E := by kernel_rfl
theorem e9j {x0 x1 : Value} {w : World} {R : Value → World → Prop} {E : Pan} (h : e2X x0 x1 w R E) : Cv Tryd.prog 113 #[x0, x1] w R E := by
 refine i6 (args := [x0, x1]) (c := g5A) (h := g5B) (rs := [.tmp 3]) Tryd.func113 (by kernel_rfl) (by kernel_rfl) (Nat.le_of_ble_eq_true (by kernel_rfl)) (by kernel_rfl) (by kernel_rfl) (by kernel_rfl) ?_
 rw [← e9i]
 exact h
def d1w (w : World) (R : Value → World → Prop) (_E : Pan) : Prop :=
 ∀ _τ : Fr, (R (Value.int .i64 (-1)) w)
def d1x (x0 x1 x7 x8 : Value) (w : World) (next2 : List Value → World → Prop) (j1 : List Value → World → Prop) (R : Value → World → Prop) (E : Pan) : Prop :=
 opK Tryd.prog E (xBin .lss 3 (.tmp 8) (.tmp 7) x8 x7) w fun b9H w_6 =>
 xcond b9H
 (opK Tryd.prog E (xV (Instr.indexAt 22 x0 x8)) w_6 fun b1n w_8 =>
 opK Tryd.prog E (xV (Instr.loadAt 67 b1n)) w_8 fun b0x o2 =>
 opK Tryd.prog E (xCall x1 [b0x]) o2 fun a1H o7 =>
 xcond a1H
 (R x8 o7)
 (opK Tryd.prog E (xBin .add 3 (.tmp 8) (.const (Value.int .i64 1)) x8 (Value.int .i64 1)) o7 fun a5v o8 =>
 next2 [a5v] o8))
 (j1 [] w_6)
def e2Y (x0 x1 : Value) (w : World) (R : Value → World → Prop) (E : Pan) : Prop :=
 xcut (fun _ w_2 => d1w w_2 R E) fun j1 =>
 opK Tryd.prog E (xBuiltin .len #[22] 3 [false] [x0]) w fun a9O w_4 =>
 xloop [8] [(Value.int .i64 0)] w_4 fun τ_15 p9 next2 =>
 d1x x0 x1 a9O (τ_15 8) p9 next2 j1 R E
noncomputable def g5C : Code := Tryd.f121.body.getD .skip
def g5D : Hint := (.seq .none (.cut [] (.seq .none (.block (.loop [8] (.seq .none (.seq (.cond .none .none) (.seq (.block (.seq .none (.seq .none (.cond (.seq .none .none) .none)))) .none)))))) (.seq .none .none)))
theorem e9k (x0 x1 : Value) (w : World) (R : Value → World → Prop) (E : Pan) : e2Y x0 x1 w R E = callX Tryd.prog [.tmp 4] g5C g5D [x0, x1] w R E := by kernel_rfl
theorem e9l {x0 x1 : Value} {w : World} {R : Value → World → Prop} {E : Pan} (h : e2Y x0 x1 w R E) : Cv Tryd.prog 121 #[x0, x1] w R E := by
 refine i6 (args := [x0, x1]) (c := g5C) (h := g5D) (rs := [.tmp 4]) Tryd.func121 (by kernel_rfl) (by kernel_rfl) (Nat.le_of_ble_eq_true (by kernel_rfl)) (by kernel_rfl) (by kernel_rfl) (by kernel_rfl) ?_
 rw [← e9k]
 exact h
end Go.Proofs.YthldnpmfelniiaaDoor
