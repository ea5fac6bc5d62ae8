/- The second reading of some of the program's functions, printed by gen2.py off the code; each is held against the code by the kernel. -/
import Derived.Test.YthldnpmfelniiaaDoorProg
import Derived.Test.YthldnpmfelniiaaDoorzTK0
import Derived.KernelRfl
namespace Go.Proofs.YthldnpmfelniiaaDoor
open Go.RowKit
set_option maxRecDepth 100000
def b6t (x4 x5 : Value) (w : World) (R : Value → World → Prop) (E : Pan) : Prop :=
 ∀ _τ : Fr, (opK Tryd.prog E (xV (Instr.loadAt 25 x5)) w fun d1w J3 =>
 opK Tryd.prog E (xCall (Value.func (.func 39) #[] #[]) [d1w]) J3 fun b8O N7 =>
 opK Tryd.prog E (xV (Instr.extract b8O 0)) N7 fun _t44_37 M4 =>
 opK Tryd.prog E (xV (Instr.extract b8O 1)) M4 fun d1x L0 =>
 opK Tryd.prog E (xBin .eql 34 (.tmp 46) (.const (Value.int .i64 0)) x4 (Value.int .i64 0)) L0 fun d1y Q2 =>
 opK Tryd.prog E (xBin .eql 34 (.tmp 48) (.const (Value.int .i64 0)) d1x (Value.int .i64 0)) Q2 fun d1z N8 =>
 opK Tryd.prog E (xBin .eql 4 (.tmp 47) (.tmp 49) d1y d1z) N8 fun d1A W1 =>
 R d1A W1)
def c2x (x1 _x4 x5 x6 : Value) (w : World) (next2 : List Value → World → Prop) (j1 : List Value → World → Prop) (_R : Value → World → Prop) (E : Pan) : Prop :=
 opK Tryd.prog E (xBin .geq 3 (.tmp 27) (.const (Value.int .i64 0)) x6 (Value.int .i64 0)) w fun d1B W3 =>
 xcond d1B
 (dX W3 fun b3I =>
 qP Tryd.prog (xV (Instr.fieldAt 25 x5 0)) fun b3J =>
 qP Tryd.prog (xV (Instr.fieldAt 25 x1 0)) fun a4R =>
 qL Tryd.prog b3I (blk b3J) (xV (Instr.loadAt 22 b3J)) fun d1C =>
 qL Tryd.prog b3I (blk a4R) (xV (Instr.loadAt 22 a4R)) fun a6X =>
 qP Tryd.prog (xV (Instr.indexAt 22 a6X x6)) fun b8P =>
 qL Tryd.prog b3I (blk b8P) (xV (Instr.loadAt 67 b8P)) fun d1D =>
 opK Tryd.prog E (xV (Instr.buildSlice 22 1 #[(0, d1D)])) b3I fun d1E a2k =>
 keepX [(blk b3J)] b3I a2k (opK Tryd.prog E (xBuiltin .append #[22, 22] 22 [false, false] [d1C, d1E]) a2k fun d1F b3K =>
 keepX [] a2k b3K (qP Tryd.prog (xV (Instr.fieldAt 25 x5 0)) fun d1G =>
 opK Tryd.prog E (xU (Instr.storeAt 22 d1G d1F)) b3K fun _z_71 Z8 =>
 keepX [] b3K Z8 (opK Tryd.prog E (xBin .sub 3 (.tmp 29) (.const (Value.int .i64 1)) x6 (Value.int .i64 1)) Z8 fun b2N a0G =>
 next2 [b2N] a0G))))
 (j1 [] W3)
def F9 (x0 : Value) (w : World) (R : Value → World → Prop) (E : Pan) : Prop :=
 opK Tryd.prog E (xV (Instr.box 25 x0)) w fun p6 w_2 =>
 opK Tryd.prog E (xCall (Value.func (.func 38) #[] #[]) []) w_2 fun a1Z w_4 =>
 opK Tryd.prog E (xV (Op.unary .not a1Z)) w_4 fun a1H w_6 =>
 xcond a1H
 (R (Value.bool false) w_6)
 (opK Tryd.prog E (xV (Instr.loadAt 25 p6)) w_6 fun a1B w_8 =>
 opK Tryd.prog E (xCall (Value.func (.func 39) #[] #[]) [a1B]) w_8 fun a0S o2 =>
 opK Tryd.prog E (xV (Instr.extract a0S 0)) o2 fun _t14_11 u7 =>
 opK Tryd.prog E (xV (Instr.extract a0S 1)) u7 fun b8Q r9 =>
 opK Tryd.prog E (xV (Instr.fieldAt 25 p6 0)) r9 fun a1C v6 =>
 opK Tryd.prog E (xV (Instr.loadAt 22 a1C)) v6 fun a1D y9 =>
 opK Tryd.prog E (xBuiltin .len #[22] 3 [false] [a1D]) y9 fun a1E v8 =>
 opK Tryd.prog E (xBin .gtr 3 (.tmp 18) (.const (Value.int .i64 100)) a1E (Value.int .i64 100)) v8 fun a1F A5 =>
 xcond a1F
 (R (Value.bool true) A5)
 (opK Tryd.prog E (xV (Instr.fieldAt 25 p6 1)) A5 fun a1G A6 =>
 opK Tryd.prog E (xV (Instr.loadAt 23 a1G)) A6 fun d1H B8 =>
 opK Tryd.prog E (xV (Instr.build 25 #[(1, d1H)])) B8 fun d1I G4 =>
 opK Tryd.prog E (xV (Instr.alloc 25 true (.tuple #[]))) G4 fun b6u J2 =>
 opK Tryd.prog E (xU (Instr.storeAt 25 b6u d1I)) J2 fun _z_31 G1 =>
 xcut (fun _ S2 => b6t b8Q b6u S2 R E) fun j1 =>
 opK Tryd.prog E (xV (Instr.fieldAt 25 p6 0)) G1 fun d1J M5 =>
 opK Tryd.prog E (xV (Instr.loadAt 22 d1J)) M5 fun d1K Q0 =>
 opK Tryd.prog E (xBuiltin .len #[22] 3 [false] [d1K]) Q0 fun d1L W2 =>
 opK Tryd.prog E (xBin .sub 3 (.tmp 25) (.const (Value.int .i64 1)) d1L (Value.int .i64 1)) W2 fun d1M U6 =>
 xloop [6] [d1M] U6 fun τ_75 a0i next2 =>
 c2x p6 b8Q b6u (τ_75 6) a0i next2 j1 R E))
noncomputable def c9 : Code := Tryd.f9.body.getD .skip
def h9 : Hint := (.seq .none (.seq (.seq .none (.cond (.seq .none .none) .none)) (.seq .none (.seq (.seq .none (.cond (.seq .none .none) .none)) (.seq .none (.cut [] (.seq .none (.block (.loop [6] (.seq (.seq .none (.cond .none .none)) (.seq (.block (.reg [(0, 2147483648, 32), (1, 4294967296, 2147483648), (0, 8589934592, 2), (4, 17179869184, 8589934592), (0, 34359738368, 64), (24, 68719476736, 51539607552), (32, 137438953472, 68719476736), (64, 274877906944, 137438953472), (130, 549755813888, 279172874240), (511, 1099511627776, 32), (1023, 0, 1649267441664)] [74, 72, 74, 66, 74, 74, 10, 2, 0, 74, 0] (.early 0 (.early 2 (.early 4 (.load 1 (.load 3 (.early 5 (.load 6 (.step 7 (.step 8 (.early 9 (.step 10 .done))))))))))))) .none))))) (.seq .none (.seq .none .none))))))))
theorem d4R (x0 : Value) (w : World) (R : Value → World → Prop) (E : Pan) : F9 x0 w R E = callX Tryd.prog [.tmp 2] c9 h9 [x0] w R E := by kernel_rfl
theorem d4S {x0 : Value} {w : World} {R : Value → World → Prop} {E : Pan} (h : F9 x0 w R E) : Cv Tryd.prog 9 #[x0] w R E := by
 refine g8 (args := [x0]) (c := c9) (h := h9) (rs := [.tmp 2]) Tryd.func9 (by kernel_rfl) (by kernel_rfl) (Nat.le_of_ble_eq_true (by kernel_rfl)) (by kernel_rfl) (by kernel_rfl) (by kernel_rfl) ?_
 rw [← d4R]
 exact h
def F38 (w : World) (R : Value → World → Prop) (E : Pan) : Prop :=
 opK Tryd.prog E (xV (Instr.build 67 #[(0, (Value.string ⟨#[120]⟩))])) w fun b9O w_2 =>
 opK Tryd.prog E (xV (Instr.build 67 #[(0, (Value.string ⟨#[120]⟩))])) w_2 fun b0s w_4 =>
 opK Tryd.prog E (xV (Instr.buildSlice 22 2 #[(0, b9O), (1, b0s)])) w_4 fun a6I w_6 =>
 opK Tryd.prog E (xV (Instr.build 25 #[(0, a6I)])) w_6 fun b0o w_8 =>
 opK Tryd.prog E (xCall (Value.func (.func 39) #[] #[]) [b0o]) w_8 fun a8x o2 =>
 opK Tryd.prog E (xV (Instr.extract a8x 0)) o2 fun b1R u7 =>
 opK Tryd.prog E (xV (Instr.extract a8x 1)) u7 fun a9y r9 =>
 opK Tryd.prog E (xBin .eql 9 (.tmp 11) (.const (Value.string ⟨#[120]⟩)) b1R (Value.string ⟨#[120]⟩)) r9 fun a6Y v6 =>
 opK Tryd.prog E (gsem (asB a6Y) true (xBin .eql 34 (.tmp 14) (.const (Value.int .i64 60)) (gval (asB a6Y) true a9y) (Value.int .i64 60))) v6 fun d1N y9 =>
 opK Tryd.prog E (xPick a6Y d1N (Value.bool false)) y9 fun d1O v8 =>
 R d1O v8
noncomputable def c38 : Code := Tryd.f38.body.getD .skip
def h38 : Hint := (.seq .none (.seq .none (.seq .none .none)))
theorem d1P (w : World) (R : Value → World → Prop) (E : Pan) : F38  w R E = callX Tryd.prog [.tmp 0] c38 h38 [] w R E := by kernel_rfl
theorem d1Q {w : World} {R : Value → World → Prop} {E : Pan} (h : F38  w R E) : Cv Tryd.prog 38 #[] w R E := by
 refine g8 (args := []) (c := c38) (h := h38) (rs := [.tmp 0]) Tryd.func38 (by kernel_rfl) (by kernel_rfl) (Nat.zero_le _) (by kernel_rfl) (by kernel_rfl) (by kernel_rfl) ?_
 rw [← d1P]
 exact h
def b3L (x7 x9 : Value) (w : World) (R : Value → World → Prop) (_E : Pan) : Prop :=
 ∀ _τ : Fr, (R (Value.tuple #[x9, x7]) w)
def b8R (x5 x7 x9 x37 x38 x39 : Value) (w : World) (next2 : List Value → World → Prop) (j1 : List Value → World → Prop) (_R : Value → World → Prop) (E : Pan) : Prop :=
 opK Tryd.prog E (xBin .lss 3 (.tmp 39) (.tmp 38) x39 x38) w fun d1R N8 =>
 xcond d1R
 (opK Tryd.prog E (xV (Instr.indexAt 124 x37 x39)) N8 fun d1S W1 =>
 opK Tryd.prog E (xV (Instr.loadAt 128 d1S)) W1 fun d1T S2 =>
 opK Tryd.prog E (xV (Instr.alloc 128 true (.tuple #[]))) S2 fun a7k M5 =>
 opK Tryd.prog E (xU (Instr.storeAt 128 a7k d1T)) M5 fun _z_51 Q0 =>
 opK Tryd.prog E (xV (Instr.fieldAt 128 a7k 0)) Q0 fun d1U W2 =>
 opK Tryd.prog E (xV (Instr.loadAt 9 d1U)) W2 fun d1V U6 =>
 opK Tryd.prog E (xV (Instr.lookup 120 x5 d1V false)) U6 fun a9R W3 =>
 opK Tryd.prog E (xV (Instr.fieldAt 128 a7k 1)) W3 fun d1W X3 =>
 opK Tryd.prog E (xV (Instr.loadAt 3 d1W)) X3 fun d1X Z5 =>
 opK Tryd.prog E (xBin .eql 3 (.tmp 46) (.tmp 51) a9R d1X) Z5 fun d1Y Z6 =>
 xcond d1Y
 (opK Tryd.prog E (xBin .add 3 (.tmp 39) (.const (Value.int .i64 1)) x39 (Value.int .i64 1)) Z6 fun d1Z X4 =>
 next2 [x7, x9, d1Z] X4)
 (opK Tryd.prog E (xBin .eql 3 (.tmp 46) (.const (Value.int .i64 0)) a9R (Value.int .i64 0)) Z6 fun d2a a0X =>
 xcond d2a
 (opK Tryd.prog E (xV (Instr.fieldAt 128 a7k 0)) a0X fun d2b Z7 =>
 opK Tryd.prog E (xV (Instr.loadAt 9 d2b)) Z7 fun d2c Z8 =>
 j1 [(Value.int .i64 63), d2c] Z8)
 (opK Tryd.prog E (xV (Instr.fieldAt 128 a7k 0)) a0X fun d2d a0G =>
 opK Tryd.prog E (xV (Instr.loadAt 9 d2d)) a0G fun d2e a0i =>
 j1 [(Value.int .i64 64), d2e] a0i)))
 (j1 [x7, x9] N8)
def F39 (x0 : Value) (w : World) (R : Value → World → Prop) (E : Pan) : Prop :=
 opK Tryd.prog E (xV (Instr.box 25 x0)) w fun p6 w_2 =>
 opK Tryd.prog E (xV (Instr.loadAt 25 p6)) w_2 fun d4T w_4 =>
 opK Tryd.prog E (xCall (Value.func (.func 27) #[] #[]) [d4T]) w_4 fun c2y w_6 =>
 opK Tryd.prog E (xBin .neq 34 (.tmp 14) (.const (Value.int .i64 0)) c2y (Value.int .i64 0)) w_6 fun d4U w_8 =>
 xcond d4U
 (R (Value.tuple #[(Value.string ⟨#[]⟩), c2y]) w_8)
 (opK Tryd.prog E (xV (Instr.fieldAt 25 p6 0)) w_8 fun d4V o2 =>
 opK Tryd.prog E (xV (Instr.loadAt 22 d4V)) o2 fun d2f u7 =>
 opK Tryd.prog E (xCall (Value.func (.func 75) #[] #[]) [d2f]) u7 fun b3M r9 =>
 opK Tryd.prog E (xV (Instr.extract b3M 0)) r9 fun d2g v6 =>
 opK Tryd.prog E (xV (Instr.extract b3M 1)) v6 fun b2K y9 =>
 opK Tryd.prog E (xV (Instr.extract b3M 2)) y9 fun b3N v8 =>
 opK Tryd.prog E (xBin .neq 34 (.tmp 24) (.const (Value.int .i64 0)) b3N (Value.int .i64 0)) v8 fun b2L A5 =>
 xcond b2L
 (R (Value.tuple #[b2K, b3N]) A5)
 (opK Tryd.prog E (xV (Instr.build 126 #[])) A5 fun b2t A6 =>
 opK Tryd.prog E (xV (Instr.box 126 b2t)) A6 fun b8S B8 =>
 opK Tryd.prog E (xV (Instr.fieldAt 25 p6 1)) B8 fun d2h G4 =>
 opK Tryd.prog E (xV (Instr.loadAt 23 d2h)) G4 fun a9z J2 =>
 opK Tryd.prog E (xCall (Value.func (.func 76) #[] #[]) [b8S, a9z]) J2 fun _t33_31 G1 =>
 xcut (fun c1l J3 => b3L (nth c1l 0) (nth c1l.tail 0) J3 R E) fun j1 =>
 opK Tryd.prog E (xNil b8S) G1 fun d2i N7 =>
 opK Tryd.prog E (xV (Instr.fieldAt 126 d2i 0)) N7 fun d2j M4 =>
 opK Tryd.prog E (xV (Instr.loadAt 124 d2j)) M4 fun b8T L0 =>
 opK Tryd.prog E (xBuiltin .len #[124] 3 [false] [b8T]) L0 fun d2k Q2 =>
 xloop [7, 9, 39] [b3N, (Value.string ⟨#[]⟩), (Value.int .i64 0)] Q2 fun τ_77 a1A next2 =>
 b8R d2g (τ_77 7) (τ_77 9) b8T d2k (τ_77 39) a1A next2 j1 R E))
noncomputable def c39 : Code := Tryd.f39.body.getD .skip
def h39 : Hint := (.seq .none (.scope (.seq (.seq .none (.seq .none (.cond (.seq .none .none) .none))) (.seq .none (.seq (.seq .none (.cond (.seq .none .none) .none)) (.seq .none (.seq .none (.seq .none (.seq .none (.cut [7, 9] (.seq .none (.block (.loop [7, 9, 39] (.seq .none (.seq (.cond .none .none) (.seq (.block (.seq .none (.seq .none (.block (.seq .none (.cond .none (.seq .none (.cond (.seq .none .none) (.seq .none .none))))))))) .none)))))) (.seq .none .none)))))))))))
theorem d2l (x0 : Value) (w : World) (R : Value → World → Prop) (E : Pan) : F39 x0 w R E = callX Tryd.prog [.tmp 2, .tmp 3] c39 h39 [x0] w R E := by kernel_rfl
theorem d2m {x0 : Value} {w : World} {R : Value → World → Prop} {E : Pan} (h : F39 x0 w R E) : Cv Tryd.prog 39 #[x0] w R E := by
 refine g8 (args := [x0]) (c := c39) (h := h39) (rs := [.tmp 2, .tmp 3]) Tryd.func39 (by kernel_rfl) (by kernel_rfl) (Nat.le_of_ble_eq_true (by kernel_rfl)) (by kernel_rfl) (by kernel_rfl) (by kernel_rfl) ?_
 rw [← d2l]
 exact h
def b8U (x5 : Value) (w : World) (R : Value → World → Prop) (_E : Pan) : Prop :=
 ∀ _τ : Fr, (R (Value.tuple #[x5, (Value.string ⟨#[]⟩), (Value.int .i64 0)]) w)
def b8V (x5 x6 x13 x14 x15 : Value) (w : World) (next2 : List Value → World → Prop) (j1 : List Value → World → Prop) (R : Value → World → Prop) (E : Pan) : Prop :=
 opK Tryd.prog E (xBin .lss 3 (.tmp 15) (.tmp 14) x15 x14) w fun d2n r9 =>
 xcond d2n
 (opK Tryd.prog E (xV (Instr.indexAt 22 x13 x15)) r9 fun a6L v6 =>
 opK Tryd.prog E (xV (Instr.loadAt 67 a6L)) v6 fun b2w y9 =>
 opK Tryd.prog E (xV (Instr.alloc 67 true (.tuple #[]))) y9 fun a4x v8 =>
 opK Tryd.prog E (xU (Instr.storeAt 67 a4x b2w)) v8 fun _z_21 A5 =>
 opK Tryd.prog E (xV (Instr.loadAt 67 a4x)) A5 fun d2o A6 =>
 opK Tryd.prog E (xCall (Value.func (.func 103) #[] #[]) [d2o]) A6 fun a9S B8 =>
 opK Tryd.prog E (xV (Instr.lookup 158 x6 a9S false)) B8 fun d2p G4 =>
 opK Tryd.prog E (xBin .sub 3 (.tmp 23) (.const (Value.int .i64 1)) d2p (Value.int .i64 1)) G4 fun d2q J2 =>
 opK Tryd.prog E (xU (Instr.mapUpdate 158 x6 a9S d2q)) J2 fun _z_31 G1 =>
 opK Tryd.prog E (xV (Instr.fieldAt 67 a4x 0)) G1 fun d2r J3 =>
 opK Tryd.prog E (xV (Instr.loadAt 9 d2r)) J3 fun d2s N7 =>
 opK Tryd.prog E (xV (Instr.lookup 120 x5 d2s false)) N7 fun d2t M4 =>
 opK Tryd.prog E (xBin .neq 3 (.tmp 29) (.const (Value.int .i64 0)) d2t (Value.int .i64 0)) M4 fun d2u L0 =>
 xcond d2u
 (dX L0 fun b5k =>
 qP Tryd.prog (xV (Instr.fieldAt 67 a4x 0)) fun a9v =>
 qL Tryd.prog b5k (blk a9v) (xV (Instr.loadAt 9 a9v)) fun d2v =>
 R (Value.tuple #[(Value.map none), d2v, (Value.int .i64 60)]) b5k)
 (opK Tryd.prog E (xV (Instr.fieldAt 67 a4x 1)) L0 fun d2w a6Q =>
 opK Tryd.prog E (xV (Instr.loadAt 3 d2w)) a6Q fun d2x b5l =>
 opK Tryd.prog E (xBin .gtr 3 (.tmp 35) (.const (Value.int .i64 1024)) d2x (Value.int .i64 1024)) b5l fun d2y a8w =>
 xcond d2y
 (dX a8w fun M5 =>
 qP Tryd.prog (xV (Instr.fieldAt 67 a4x 0)) fun b8W =>
 qL Tryd.prog M5 (blk b8W) (xV (Instr.loadAt 9 b8W)) fun d2z =>
 R (Value.tuple #[(Value.map none), d2z, (Value.int .i64 61)]) M5)
 (opK Tryd.prog E (xV (Instr.lookup 158 x6 a9S false)) a8w fun d2A W2 =>
 opK Tryd.prog E (xBin .lss 3 (.tmp 42) (.const (Value.int .i64 0)) d2A (Value.int .i64 0)) W2 fun d2B U6 =>
 xcond d2B
 (dX U6 fun c1m =>
 qP Tryd.prog (xV (Instr.fieldAt 67 a4x 0)) fun b8X =>
 qL Tryd.prog c1m (blk b8X) (xV (Instr.loadAt 9 b8X)) fun d2C =>
 R (Value.tuple #[(Value.map none), d2C, (Value.int .i64 62)]) c1m)
 (opK Tryd.prog E (xV (Instr.fieldAt 67 a4x 0)) U6 fun d2D d1e =>
 opK Tryd.prog E (xV (Instr.loadAt 9 d2D)) d1e fun d2E d8t =>
 opK Tryd.prog E (xU (Instr.mapUpdate 120 x5 d2E a9S)) d8t fun _z_64 d1i =>
 opK Tryd.prog E (xBin .add 3 (.tmp 15) (.const (Value.int .i64 1)) x15 (Value.int .i64 1)) d1i fun d2F a2k =>
 next2 [d2F] a2k))))
 (j1 [] r9)
def F75 (x0 : Value) (w : World) (R : Value → World → Prop) (E : Pan) : Prop :=
 opK Tryd.prog E (xV (Instr.makeMap 120 none)) w fun b1O w_2 =>
 opK Tryd.prog E (xV (Instr.makeMap 158 none)) w_2 fun a9s w_4 =>
 opK Tryd.prog E (xU (Instr.mapUpdate 158 a9s (Value.int .i64 1) (Value.int .i64 32))) w_4 fun _z_5 w_6 =>
 opK Tryd.prog E (xU (Instr.mapUpdate 158 a9s (Value.int .i64 2) (Value.int .i64 16))) w_6 fun _z_7 w_8 =>
 xcut (fun _ o2 => b8U b1O o2 R E) fun j1 =>
 opK Tryd.prog E (xBuiltin .len #[22] 3 [false] [x0]) w_8 fun d2G u7 =>
 xloop [15] [(Value.int .i64 0)] u7 fun τ_68 b3K next2 =>
 b8V b1O a9s x0 d2G (τ_68 15) b3K next2 j1 R E
noncomputable def c75 : Code := Tryd.f75.body.getD .skip
def h75 : Hint := (.seq .none (.seq .none (.seq .none (.cut [] (.seq .none (.block (.loop [15] (.seq .none (.seq (.cond .none .none) (.seq (.block (.seq .none (.seq .none (.seq .none (.seq (.block (.seq .none (.cond (.seq (.reg [(0, 2147483648, 256), (1, 4294967296, 2147483648), (0, 4, 0), (7, 8, 4294967296), (15, 16, 0)] [2, 0, 2, 2, 2] (.early 0 (.early 2 (.load 1 (.early 3 (.early 4 .done)))))) .none) (.seq .none (.cond (.seq (.reg [(0, 137438953472, 256), (1, 274877906944, 137438953472), (0, 4, 0), (7, 8, 274877906944), (15, 16, 0)] [2, 0, 2, 2, 2] (.early 0 (.early 2 (.load 1 (.early 3 (.early 4 .done)))))) .none) (.seq .none (.cond (.seq (.reg [(0, 17592186044416, 256), (1, 35184372088832, 17592186044416), (0, 4, 0), (7, 8, 35184372088832), (15, 16, 0)] [2, 0, 2, 2, 2] (.early 0 (.early 2 (.load 1 (.early 3 (.early 4 .done)))))) .none) .none))))))) .none))))) .none)))))) (.seq .none .none)))))
theorem d2H (x0 : Value) (w : World) (R : Value → World → Prop) (E : Pan) : F75 x0 w R E = callX Tryd.prog [.tmp 2, .tmp 3, .tmp 4] c75 h75 [x0] w R E := by kernel_rfl
theorem d2I {x0 : Value} {w : World} {R : Value → World → Prop} {E : Pan} (h : F75 x0 w R E) : Cv Tryd.prog 75 #[x0] w R E := by
 refine g8 (args := [x0]) (c := c75) (h := h75) (rs := [.tmp 2, .tmp 3, .tmp 4]) Tryd.func75 (by kernel_rfl) (by kernel_rfl) (Nat.le_of_ble_eq_true (by kernel_rfl)) (by kernel_rfl) (by kernel_rfl) (by kernel_rfl) ?_
 rw [← d2H]
 exact h
def b3O (_x0 _x10 _x11 x12 : Value) (w : World) (next1 : List Value → World → Prop) (_R : Value → World → Prop) (E : Pan) : Prop :=
 ∀ _τ : Fr, (opK Tryd.prog E (xBin .add 3 (.tmp 12) (.const (Value.int .i64 1)) x12 (Value.int .i64 1)) w fun d4W w_6 =>
 next1 [d4W] w_6)
def b3P (x0 x5 _x10 _x11 _x12 : Value) (w : World) (j2 : List Value → World → Prop) (_R : Value → World → Prop) (E : Pan) : Prop :=
 ∀ _τ : Fr, (opK Tryd.prog E (xV (Instr.fieldAt 88 x5 4)) w fun d2J y9 =>
 opK Tryd.prog E (xV (Instr.loadAt 23 d2J)) y9 fun d2K v8 =>
 opK Tryd.prog E (xCall (Value.func (.func 76) #[] #[]) [x0, d2K]) v8 fun _t71_21 A5 =>
 opK Tryd.prog E (xV (Instr.fieldAt 88 x5 5)) A5 fun d2L A6 =>
 opK Tryd.prog E (xV (Instr.loadAt 23 d2L)) A6 fun d2M B8 =>
 opK Tryd.prog E (xCall (Value.func (.func 76) #[] #[]) [x0, d2M]) B8 fun _t75_27 G4 =>
 j2 [] G4)
def b8Y (x0 _x5 _x10 _x11 _x12 x58 x59 x60 : Value) (w : World) (next6 : List Value → World → Prop) (j5 : List Value → World → Prop) (_R : Value → World → Prop) (E : Pan) : Prop :=
 opK Tryd.prog E (xBin .lss 3 (.tmp 60) (.tmp 59) x60 x59) w fun d2N M4 =>
 xcond d2N
 (opK Tryd.prog E (xV (Instr.indexAt 28 x58 x60)) M4 fun d2O L0 =>
 opK Tryd.prog E (xV (Instr.loadAt 30 d2O)) L0 fun d2P Q2 =>
 opK Tryd.prog E (xV (Instr.alloc 30 true (.tuple #[]))) Q2 fun c2z N8 =>
 opK Tryd.prog E (xU (Instr.storeAt 30 c2z d2P)) N8 fun _z_45 W1 =>
 opK Tryd.prog E (xV (Instr.loadAt 30 c2z)) W1 fun d2Q S2 =>
 opK Tryd.prog E (xCall (Value.func (.func 105) #[] #[]) [x0, d2Q]) S2 fun _t66_49 M5 =>
 opK Tryd.prog E (xBin .add 3 (.tmp 60) (.const (Value.int .i64 1)) x60 (Value.int .i64 1)) M5 fun d2R Q0 =>
 next6 [d2R] Q0)
 (j5 [] M4)
def b3Q (x0 x5 x10 x11 x12 : Value) (w : World) (j2 : List Value → World → Prop) (R : Value → World → Prop) (E : Pan) : Prop :=
 ∀ _τ : Fr, (xcut (fun _ J2 => b3P x0 x5 x10 x11 x12 J2 j2 R E) fun j5 =>
 opK Tryd.prog E (xV (Instr.fieldAt 88 x5 2)) w fun d2S G1 =>
 opK Tryd.prog E (xV (Instr.loadAt 28 d2S)) G1 fun b8Z J3 =>
 opK Tryd.prog E (xBuiltin .len #[28] 3 [false] [b8Z]) J3 fun d2T N7 =>
 xloop [60] [(Value.int .i64 0)] N7 fun τ_53 W2 next6 =>
 b8Y x0 x5 x10 x11 x12 b8Z d2T (τ_53 60) W2 next6 j5 R E)
def b9a (x0 _x5 _x10 _x11 _x12 x47 x48 x49 : Value) (w : World) (next7 : List Value → World → Prop) (j4 : List Value → World → Prop) (_R : Value → World → Prop) (E : Pan) : Prop :=
 opK Tryd.prog E (xBin .lss 3 (.tmp 49) (.tmp 48) x49 x48) w fun d2U Z6 =>
 xcond d2U
 (opK Tryd.prog E (xV (Instr.indexAt 31 x47 x49)) Z6 fun d2V X4 =>
 opK Tryd.prog E (xV (Instr.loadAt 33 d2V)) X4 fun d2W a0X =>
 opK Tryd.prog E (xV (Instr.alloc 33 true (.tuple #[]))) a0X fun c2A Z7 =>
 opK Tryd.prog E (xU (Instr.storeAt 33 c2A d2W)) Z7 fun _z_71 Z8 =>
 opK Tryd.prog E (xV (Instr.loadAt 33 c2A)) Z8 fun d2X a0G =>
 opK Tryd.prog E (xCall (Value.func (.func 104) #[] #[]) [x0, d2X]) a0G fun _t55_75 a0i =>
 opK Tryd.prog E (xBin .add 3 (.tmp 49) (.const (Value.int .i64 1)) x49 (Value.int .i64 1)) a0i fun d2Y a1A =>
 next7 [d2Y] a1A)
 (j4 [] Z6)
def b3R (x0 x5 x10 x11 x12 : Value) (w : World) (j2 : List Value → World → Prop) (R : Value → World → Prop) (E : Pan) : Prop :=
 ∀ _τ : Fr, (xcut (fun _ U6 => b3Q x0 x5 x10 x11 x12 U6 j2 R E) fun j4 =>
 opK Tryd.prog E (xV (Instr.fieldAt 88 x5 3)) w fun a9R W3 =>
 opK Tryd.prog E (xV (Instr.loadAt 31 a9R)) W3 fun b9b X3 =>
 opK Tryd.prog E (xBuiltin .len #[31] 3 [false] [b9b]) X3 fun d2Z Z5 =>
 xloop [49] [(Value.int .i64 0)] Z5 fun τ_79 a1Y next7 =>
 b9a x0 x5 x10 x11 x12 b9b d2Z (τ_79 49) a1Y next7 j4 R E)
def b9c (x0 x10 x11 x12 : Value) (w : World) (next1 : List Value → World → Prop) (R : Value → World → Prop) (E : Pan) : Prop :=
 opK Tryd.prog E (xBin .lss 3 (.tmp 12) (.tmp 11) x12 x11) w fun d4X w_4 =>
 xcond d4X
 (xcut (fun _ w_8 => b3O x0 x10 x11 x12 w_8 next1 R E) fun j2 =>
 opK Tryd.prog E (xV (Instr.indexAt 23 x10 x12)) w_4 fun a1z o2 =>
 opK Tryd.prog E (xV (Instr.loadAt 88 a1z)) o2 fun a3z u7 =>
 opK Tryd.prog E (xV (Instr.alloc 88 true (.tuple #[]))) u7 fun a9T r9 =>
 opK Tryd.prog E (xU (Instr.storeAt 88 a9T a3z)) r9 fun _z_15 v6 =>
 xcut (fun _ a2L => b3R x0 a9T x10 x11 x12 a2L j2 R E) fun j3 =>
 opK Tryd.prog E (xV (Instr.fieldAt 88 a9T 0)) v6 fun d3a a4E =>
 opK Tryd.prog E (xV (Instr.loadAt 3 d3a)) a4E fun b9d a4F =>
 opK Tryd.prog E (xBin .eql 3 (.tmp 17) (.const (Value.int .i64 1)) b9d (Value.int .i64 1)) a4F fun d3b a2M =>
 xcond d3b
 (dX a2M fun b6v =>
 qP Tryd.prog (xNil x0) fun d3c =>
 qP Tryd.prog (xV (Instr.fieldAt 126 d3c 0)) fun b3S =>
 qP Tryd.prog (xV (Instr.fieldAt 88 a9T 1)) fun b9e =>
 qL Tryd.prog b6v (blk b3S) (xV (Instr.loadAt 124 b3S)) fun d3d =>
 qL Tryd.prog b6v (blk b9e) (xV (Instr.loadAt 9 b9e)) fun d3e =>
 qP Tryd.prog (xV (Instr.build 128 #[(0, d3e), (1, (Value.int .i64 1))])) fun d3f =>
 opK Tryd.prog E (xV (Instr.buildSlice 124 1 #[(0, d3f)])) b6v fun d3g c1D =>
 keepX [(blk b3S)] b6v c1D (opK Tryd.prog E (xBuiltin .append #[124, 124] 124 [false, false] [d3d, d3g]) c1D fun d3h b6w =>
 keepX [] c1D b6w (qP Tryd.prog (xNil x0) fun c5c =>
 qP Tryd.prog (xV (Instr.fieldAt 126 c5c 0)) fun c5d =>
 opK Tryd.prog E (xU (Instr.storeAt 124 c5d d3h)) b6w fun _z_102 c2B =>
 keepX [] b6w c2B (j3 [] c2B))))
 (opK Tryd.prog E (xBin .eql 3 (.tmp 17) (.const (Value.int .i64 2)) b9d (Value.int .i64 2)) a2M fun c5e c2C =>
 xcond c5e
 (dX c2C fun a2Z =>
 qP Tryd.prog (xNil x0) fun c5f =>
 qP Tryd.prog (xV (Instr.fieldAt 126 c5f 0)) fun b1f =>
 qP Tryd.prog (xV (Instr.fieldAt 88 a9T 1)) fun b4M =>
 qL Tryd.prog a2Z (blk b1f) (xV (Instr.loadAt 124 b1f)) fun c5g =>
 qL Tryd.prog a2Z (blk b4M) (xV (Instr.loadAt 9 b4M)) fun c5h =>
 qP Tryd.prog (xV (Instr.build 128 #[(0, c5h), (1, (Value.int .i64 2))])) fun c5i =>
 opK Tryd.prog E (xV (Instr.buildSlice 124 1 #[(0, c5i)])) a2Z fun c5j a4q =>
 keepX [(blk b1f)] a2Z a4q (opK Tryd.prog E (xBuiltin .append #[124, 124] 124 [false, false] [c5g, c5j]) a4q fun c5k a5C =>
 keepX [] a4q a5C (qP Tryd.prog (xNil x0) fun c5l =>
 qP Tryd.prog (xV (Instr.fieldAt 126 c5l 0)) fun c5m =>
 opK Tryd.prog E (xU (Instr.storeAt 124 c5m c5k)) a5C fun _z_119 a7z =>
 keepX [] a5C a7z (j3 [] a7z))))
 (j3 [] c2C)))
 (R (Value.tuple #[]) w_4)
def F76 (x0 x1 : Value) (w : World) (R : Value → World → Prop) (E : Pan) : Prop :=
 opK Tryd.prog E (xBuiltin .len #[23] 3 [false] [x1]) w fun d4Y w_2 =>
 xloop [12] [(Value.int .i64 0)] w_2 fun τ_121 b5I next1 =>
 b9c x0 x1 d4Y (τ_121 12) b5I next1 R E
noncomputable def c76 : Code := Tryd.f76.body.getD .skip
def h76 : Hint := (.seq .none (.block (.loop [12] (.seq .none (.seq (.cond .none .none) (.cut [] (.block (.seq .none (.cut [] (.seq .none (.block (.seq .none (.cond (.reg [(0, 1048576, 1), (0, 2097152, 1), (2, 4194304, 2097152), (4, 8388608, 4194304), (8, 16777216, 8388608), (0, 33554432, 32), (32, 67108864, 33554432), (64, 134217728, 67108864), (128, 268435456, 134217728), (272, 536870912, 285212672), (1023, 1073741824, 1048576), (2047, 2147483648, 1073741824), (3071, 0, 2684354560)] [80, 80, 80, 80, 64, 80, 16, 80, 16, 0, 80, 80, 0] (.early 0 (.early 1 (.early 2 (.early 3 (.early 5 (.load 4 (.load 6 (.early 7 (.step 8 (.step 9 (.early 10 (.early 11 (.step 12 .done)))))))))))))) (.seq .none (.cond (.reg [(0, 17179869184, 1), (0, 34359738368, 1), (2, 68719476736, 34359738368), (4, 137438953472, 68719476736), (8, 274877906944, 137438953472), (0, 549755813888, 32), (32, 1099511627776, 549755813888), (64, 2199023255552, 1099511627776), (128, 4398046511104, 2199023255552), (272, 8796093022208, 4672924418048), (1023, 17592186044416, 17179869184), (2047, 35184372088832, 17592186044416), (3071, 0, 43980465111040)] [80, 80, 80, 80, 64, 80, 16, 80, 16, 0, 80, 80, 0] (.early 0 (.early 1 (.early 2 (.early 3 (.early 5 (.load 4 (.load 6 (.early 7 (.step 8 (.step 9 (.early 10 (.early 11 (.step 12 .done)))))))))))))) .none)))))) (.cut [] (.seq .none (.block (.loop [49] (.seq .none (.seq (.cond .none .none) (.seq (.block (.seq .none .none)) .none)))))) (.cut [] (.seq .none (.block (.loop [60] (.seq .none (.seq (.cond .none .none) (.seq (.block (.seq .none .none)) .none)))))) (.seq .none .none)))))) .none))))))
theorem d3i (x0 x1 : Value) (w : World) (R : Value → World → Prop) (E : Pan) : F76 x0 x1 w R E = callX Tryd.prog [] c76 h76 [x0, x1] w R E := by kernel_rfl
theorem d3j {x0 x1 : Value} {w : World} {R : Value → World → Prop} {E : Pan} (h : F76 x0 x1 w R E) : Cv Tryd.prog 76 #[x0, x1] w R E := by
 refine g8 (args := [x0, x1]) (c := c76) (h := h76) (rs := []) Tryd.func76 (by kernel_rfl) (by kernel_rfl) (Nat.le_of_ble_eq_true (by kernel_rfl)) (by kernel_rfl) (by kernel_rfl) (by kernel_rfl) ?_
 rw [← d3i]
 exact h
def b6x (x0 : Value) (w : World) (R : Value → World → Prop) (E : Pan) : Prop :=
 opK Tryd.prog E (xV (Instr.box 67 x0)) w fun p6 w_2 =>
 opK Tryd.prog E (xV (Instr.fieldAt 67 p6 1)) w_2 fun a0V w_4 =>
 opK Tryd.prog E (xV (Instr.loadAt 3 a0V)) w_4 fun U5 w_6 =>
 opK Tryd.prog E (xBin .gtr 3 (.tmp 4) (.const (Value.int .i64 0)) U5 (Value.int .i64 0)) w_6 fun a0W w_8 =>
 xcond a0W
 (R (Value.int .i64 2) w_8)
 (R (Value.int .i64 1) w_8)
noncomputable def d3k : Code := Tryd.f103.body.getD .skip
def d3l : Hint := (.seq .none (.seq (.seq .none (.cond (.seq .none .none) .none)) (.seq .none .none)))
theorem c5n (x0 : Value) (w : World) (R : Value → World → Prop) (E : Pan) : b6x x0 w R E = callX Tryd.prog [.tmp 2] d3k d3l [x0] w R E := by kernel_rfl
theorem c5o {x0 : Value} {w : World} {R : Value → World → Prop} {E : Pan} (h : b6x x0 w R E) : Cv Tryd.prog 103 #[x0] w R E := by
 refine g8 (args := [x0]) (c := d3k) (h := d3l) (rs := [.tmp 2]) Tryd.func103 (by kernel_rfl) (by kernel_rfl) (Nat.le_of_ble_eq_true (by kernel_rfl)) (by kernel_rfl) (by kernel_rfl) (by kernel_rfl) ?_
 rw [← c5n]
 exact h
def b4N (x0 x20 x21 x22 : Value) (w : World) (next2 : List Value → World → Prop) (R : Value → World → Prop) (E : Pan) : Prop :=
 opK Tryd.prog E (xBin .lss 3 (.tmp 22) (.tmp 21) x22 x21) w fun d4Z o2 =>
 xcond d4Z
 (opK Tryd.prog E (xV (Instr.indexAt 31 x20 x22)) o2 fun d3m u7 =>
 opK Tryd.prog E (xV (Instr.loadAt 33 d3m)) u7 fun d3n r9 =>
 opK Tryd.prog E (xV (Instr.alloc 33 true (.tuple #[]))) r9 fun c2D v6 =>
 opK Tryd.prog E (xU (Instr.storeAt 33 c2D d3n)) v6 fun _z_17 y9 =>
 opK Tryd.prog E (xV (Instr.loadAt 33 c2D)) y9 fun d3o v8 =>
 opK Tryd.prog E (xCall (Value.func (.func 104) #[] #[]) [x0, d3o]) v8 fun _t28_21 A5 =>
 opK Tryd.prog E (xBin .add 3 (.tmp 22) (.const (Value.int .i64 1)) x22 (Value.int .i64 1)) A5 fun d3p A6 =>
 next2 [d3p] A6)
 (R (Value.tuple #[]) o2)
def b1g (x0 x3 : Value) (w : World) (R : Value → World → Prop) (E : Pan) : Prop :=
 ∀ _τ : Fr, (opK Tryd.prog E (xV (Instr.fieldAt 33 x3 3)) w fun d5a w_4 =>
 opK Tryd.prog E (xV (Instr.loadAt 31 d5a)) w_4 fun c2E w_6 =>
 opK Tryd.prog E (xBuiltin .len #[31] 3 [false] [c2E]) w_6 fun d5b w_8 =>
 xloop [22] [(Value.int .i64 0)] w_8 fun τ_25 B8 next2 =>
 b4N x0 c2E d5b (τ_25 22) B8 next2 R E)
def b4O (x0 _x3 x9 x10 x11 : Value) (w : World) (next3 : List Value → World → Prop) (j1 : List Value → World → Prop) (_R : Value → World → Prop) (E : Pan) : Prop :=
 opK Tryd.prog E (xBin .lss 3 (.tmp 11) (.tmp 10) x11 x10) w fun d3q N7 =>
 xcond d3q
 (opK Tryd.prog E (xV (Instr.indexAt 28 x9 x11)) N7 fun a7l M4 =>
 opK Tryd.prog E (xV (Instr.loadAt 30 a7l)) M4 fun b3T L0 =>
 opK Tryd.prog E (xV (Instr.alloc 30 true (.tuple #[]))) L0 fun c2F Q2 =>
 opK Tryd.prog E (xU (Instr.storeAt 30 c2F b3T)) Q2 fun _z_43 N8 =>
 opK Tryd.prog E (xV (Instr.loadAt 30 c2F)) N8 fun a9A W1 =>
 opK Tryd.prog E (xCall (Value.func (.func 105) #[] #[]) [x0, a9A]) W1 fun _t17_47 S2 =>
 opK Tryd.prog E (xBin .add 3 (.tmp 11) (.const (Value.int .i64 1)) x11 (Value.int .i64 1)) S2 fun a9B M5 =>
 next3 [a9B] M5)
 (j1 [] N7)
def b6y (x0 x1 : Value) (w : World) (R : Value → World → Prop) (E : Pan) : Prop :=
 opK Tryd.prog E (xV (Instr.box 33 x1)) w fun a7m w_2 =>
 xcut (fun _ G4 => b1g x0 a7m G4 R E) fun j1 =>
 opK Tryd.prog E (xV (Instr.fieldAt 33 a7m 2)) w_2 fun d5c J2 =>
 opK Tryd.prog E (xV (Instr.loadAt 28 d5c)) J2 fun c2G G1 =>
 opK Tryd.prog E (xBuiltin .len #[28] 3 [false] [c2G]) G1 fun d3r J3 =>
 xloop [11] [(Value.int .i64 0)] J3 fun τ_51 Q0 next3 =>
 b4O x0 a7m c2G d3r (τ_51 11) Q0 next3 j1 R E
noncomputable def d3s : Code := Tryd.f104.body.getD .skip
def d3t : Hint := (.seq .none (.cut [] (.seq .none (.block (.loop [11] (.seq .none (.seq (.cond .none .none) (.seq (.block (.seq .none .none)) .none)))))) (.seq .none (.block (.loop [22] (.seq .none (.seq (.cond .none .none) (.seq (.block (.seq .none .none)) .none))))))))
theorem c5p (x0 x1 : Value) (w : World) (R : Value → World → Prop) (E : Pan) : b6y x0 x1 w R E = callX Tryd.prog [] d3s d3t [x0, x1] w R E := by kernel_rfl
theorem c5q {x0 x1 : Value} {w : World} {R : Value → World → Prop} {E : Pan} (h : b6y x0 x1 w R E) : Cv Tryd.prog 104 #[x0, x1] w R E := by
 refine g8 (args := [x0, x1]) (c := d3s) (h := d3t) (rs := []) Tryd.func104 (by kernel_rfl) (by kernel_rfl) (Nat.le_of_ble_eq_true (by kernel_rfl)) (by kernel_rfl) (by kernel_rfl) (by kernel_rfl) ?_
 rw [← c5p]
 exact h
def b4P (x0 x37 x38 x39 : Value) (w : World) (next2 : List Value → World → Prop) (R : Value → World → Prop) (E : Pan) : Prop :=
 opK Tryd.prog E (xBin .lss 3 (.tmp 39) (.tmp 38) x39 x38) w fun d5d o2 =>
 xcond d5d
 (opK Tryd.prog E (xV (Instr.indexAt 28 x37 x39)) o2 fun d3u u7 =>
 opK Tryd.prog E (xV (Instr.loadAt 30 d3u)) u7 fun d3v r9 =>
 opK Tryd.prog E (xV (Instr.alloc 30 true (.tuple #[]))) r9 fun c2H v6 =>
 opK Tryd.prog E (xU (Instr.storeAt 30 c2H d3v)) v6 fun _z_17 y9 =>
 opK Tryd.prog E (xV (Instr.loadAt 30 c2H)) y9 fun d3w v8 =>
 opK Tryd.prog E (xCall (Value.func (.func 105) #[] #[]) [x0, d3w]) v8 fun _t45_21 A5 =>
 opK Tryd.prog E (xBin .add 3 (.tmp 39) (.const (Value.int .i64 1)) x39 (Value.int .i64 1)) A5 fun d3x A6 =>
 next2 [d3x] A6)
 (R (Value.tuple #[]) o2)
def b1h (x0 x3 : Value) (w : World) (R : Value → World → Prop) (E : Pan) : Prop :=
 ∀ _τ : Fr, (opK Tryd.prog E (xV (Instr.fieldAt 30 x3 3)) w fun d5e w_4 =>
 opK Tryd.prog E (xV (Instr.loadAt 28 d5e)) w_4 fun c2I w_6 =>
 opK Tryd.prog E (xBuiltin .len #[28] 3 [false] [c2I]) w_6 fun d5f w_8 =>
 xloop [39] [(Value.int .i64 0)] w_8 fun τ_25 B8 next2 =>
 b4P x0 c2I d5f (τ_25 39) B8 next2 R E)
def b6z (x0 x1 : Value) (w : World) (R : Value → World → Prop) (E : Pan) : Prop :=
 opK Tryd.prog E (xV (Instr.box 30 x1)) w fun a7m w_2 =>
 xcut (fun _ G4 => b1h x0 a7m G4 R E) fun j1 =>
 opK Tryd.prog E (xV (Instr.fieldAt 30 a7m 0)) w_2 fun d5g J2 =>
 opK Tryd.prog E (xV (Instr.loadAt 3 d5g)) J2 fun c2J G1 =>
 opK Tryd.prog E (xBin .eql 3 (.tmp 7) (.const (Value.int .i64 2)) c2J (Value.int .i64 2)) G1 fun d5h J3 =>
 xcond d5h
 (dX J3 fun b3m =>
 qP Tryd.prog (xNil x0) fun d3y =>
 qP Tryd.prog (xV (Instr.fieldAt 126 d3y 0)) fun a7l =>
 qP Tryd.prog (xV (Instr.fieldAt 30 a7m 2)) fun b9f =>
 qL Tryd.prog b3m (blk a7l) (xV (Instr.loadAt 124 a7l)) fun b3T =>
 qL Tryd.prog b3m (blk b9f) (xV (Instr.loadAt 9 b9f)) fun d3z =>
 qP Tryd.prog (xV (Instr.build 128 #[(0, d3z), (1, (Value.int .i64 1))])) fun d3A =>
 opK Tryd.prog E (xV (Instr.buildSlice 124 1 #[(0, d3A)])) b3m fun d3B b2H =>
 keepX [(blk a7l)] b3m b2H (opK Tryd.prog E (xBuiltin .append #[124, 124] 124 [false, false] [b3T, d3B]) b2H fun d3C a6Q =>
 keepX [] b2H a6Q (qP Tryd.prog (xNil x0) fun d3D =>
 qP Tryd.prog (xV (Instr.fieldAt 126 d3D 0)) fun d3E =>
 opK Tryd.prog E (xU (Instr.storeAt 124 d3E d3C)) a6Q fun _z_48 a8w =>
 keepX [] a6Q a8w (j1 [] a8w))))
 (opK Tryd.prog E (xBin .eql 3 (.tmp 7) (.const (Value.int .i64 4)) c2J (Value.int .i64 4)) J3 fun d3F c1E =>
 xcond d3F
 (dX c1E fun Q0 =>
 qP Tryd.prog (xNil x0) fun d3G =>
 qP Tryd.prog (xV (Instr.fieldAt 126 d3G 0)) fun b3U =>
 qP Tryd.prog (xV (Instr.fieldAt 30 a7m 2)) fun b9g =>
 qL Tryd.prog Q0 (blk b3U) (xV (Instr.loadAt 124 b3U)) fun d3H =>
 qL Tryd.prog Q0 (blk b9g) (xV (Instr.loadAt 9 b9g)) fun d3I =>
 qP Tryd.prog (xV (Instr.build 128 #[(0, d3I), (1, (Value.int .i64 2))])) fun d3J =>
 opK Tryd.prog E (xV (Instr.buildSlice 124 1 #[(0, d3J)])) Q0 fun b2T X3 =>
 keepX [(blk b3U)] Q0 X3 (opK Tryd.prog E (xBuiltin .append #[124, 124] 124 [false, false] [d3H, b2T]) X3 fun a4R Z5 =>
 keepX [] X3 Z5 (qP Tryd.prog (xNil x0) fun a6X =>
 qP Tryd.prog (xV (Instr.fieldAt 126 a6X 0)) fun d3K =>
 opK Tryd.prog E (xU (Instr.storeAt 124 d3K a4R)) Z5 fun _z_65 X4 =>
 keepX [] Z5 X4 (j1 [] X4))))
 (j1 [] c1E))
noncomputable def d3L : Code := Tryd.f105.body.getD .skip
def d3M : Hint := (.seq .none (.cut [] (.seq .none (.block (.seq .none (.cond (.reg [(0, 1024, 1), (0, 2048, 1), (2, 4096, 2048), (4, 8192, 4096), (8, 16384, 8192), (0, 32768, 8), (32, 65536, 32768), (64, 131072, 65536), (128, 262144, 131072), (272, 524288, 278528), (1023, 1048576, 1024), (2047, 2097152, 1048576), (3071, 0, 2621440)] [80, 80, 80, 80, 64, 80, 16, 80, 16, 0, 80, 80, 0] (.early 0 (.early 1 (.early 2 (.early 3 (.early 5 (.load 4 (.load 6 (.early 7 (.step 8 (.step 9 (.early 10 (.early 11 (.step 12 .done)))))))))))))) (.seq .none (.cond (.reg [(0, 16777216, 1), (0, 33554432, 1), (2, 67108864, 33554432), (4, 134217728, 67108864), (8, 268435456, 134217728), (0, 536870912, 8), (32, 1073741824, 536870912), (64, 2147483648, 1073741824), (128, 4294967296, 2147483648), (272, 8589934592, 4563402752), (1023, 17179869184, 16777216), (2047, 34359738368, 17179869184), (3071, 0, 42949672960)] [80, 80, 80, 80, 64, 80, 16, 80, 16, 0, 80, 80, 0] (.early 0 (.early 1 (.early 2 (.early 3 (.early 5 (.load 4 (.load 6 (.early 7 (.step 8 (.step 9 (.early 10 (.early 11 (.step 12 .done)))))))))))))) .none)))))) (.seq .none (.block (.loop [39] (.seq .none (.seq (.cond .none .none) (.seq (.block (.seq .none .none)) .none))))))))
theorem c5r (x0 x1 : Value) (w : World) (R : Value → World → Prop) (E : Pan) : b6z x0 x1 w R E = callX Tryd.prog [] d3L d3M [x0, x1] w R E := by kernel_rfl
theorem c5s {x0 x1 : Value} {w : World} {R : Value → World → Prop} {E : Pan} (h : b6z x0 x1 w R E) : Cv Tryd.prog 105 #[x0, x1] w R E := by
 refine g8 (args := [x0, x1]) (c := d3L) (h := d3M) (rs := []) Tryd.func105 (by kernel_rfl) (by kernel_rfl) (Nat.le_of_ble_eq_true (by kernel_rfl)) (by kernel_rfl) (by kernel_rfl) (by kernel_rfl) ?_
 rw [← c5r]
 exact h
end Go.Proofs.YthldnpmfelniiaaDoor
