/- The second reading of some of the program's functions, printed by gen2.py off the code; each is held against the code by the kernel. -/
import Derived.Test.YthldnpmfelniiaaDoorProg
import Derived.Test.YthldnpmfelniiaaDoorzVK0
import Derived.KernelRfl
namespace Go.Proofs.YthldnpmfelniiaaDoor
open Go.RowKit
set_option maxRecDepth 100000
def d7B (x4 x5 : Value) (w : World) (R : Value → World → Prop) (E : Pan) : Prop :=
 ∀ _τ : Fr, (opK Tryd.prog E (xV (Instr.loadAt 25 x5)) w fun d3h D9 =>
 opK Tryd.prog E (xCall (Value.func (.func 39) #[] #[]) [d3h]) D9 fun c0d J4 =>
 opK Tryd.prog E (xV (Instr.extract c0d 0)) J4 fun _t44_37 K8 =>
 opK Tryd.prog E (xV (Instr.extract c0d 1)) K8 fun d3i K3 =>
 opK Tryd.prog E (xBin .eql 34 (.tmp 46) (.const (Value.int .i64 0)) x4 (Value.int .i64 0)) K3 fun d3j M6 =>
 opK Tryd.prog E (xBin .eql 34 (.tmp 48) (.const (Value.int .i64 0)) d3i (Value.int .i64 0)) M6 fun d3k L4 =>
 opK Tryd.prog E (xBin .eql 4 (.tmp 47) (.tmp 49) d3j d3k) L4 fun d3l S3 =>
 R d3l S3)
def d7C (x1 _x4 x5 x6 : Value) (w : World) (next2 : List Value → World → Prop) (j1 : List Value → World → Prop) (_R : Value → World → Prop) (E : Pan) : Prop :=
 opK Tryd.prog E (xBin .geq 3 (.tmp 27) (.const (Value.int .i64 0)) x6 (Value.int .i64 0)) w fun d3m X5 =>
 xcond d3m
 (dX X5 fun a7R =>
 qP Tryd.prog (xV (Instr.fieldAt 25 x5 0)) fun b4N =>
 qP Tryd.prog (xV (Instr.fieldAt 25 x1 0)) fun a5C =>
 qL Tryd.prog a7R (blk b4N) (xV (Instr.loadAt 22 b4N)) fun d3n =>
 qL Tryd.prog a7R (blk a5C) (xV (Instr.loadAt 22 a5C)) fun a7D =>
 qP Tryd.prog (xV (Instr.indexAt 22 a7D x6)) fun c0e =>
 qL Tryd.prog a7R (blk c0e) (xV (Instr.loadAt 67 c0e)) fun d3o =>
 opK Tryd.prog E (xV (Instr.buildSlice 22 1 #[(0, d3o)])) a7R fun d3p a1O =>
 keepX [(blk b4N)] a7R a1O (opK Tryd.prog E (xBuiltin .append #[22, 22] 22 [false, false] [d3n, d3p]) a1O fun d3q a9G =>
 keepX [] a1O a9G (qP Tryd.prog (xV (Instr.fieldAt 25 x5 0)) fun d3r =>
 opK Tryd.prog E (xU (Instr.storeAt 22 d3r d3q)) a9G fun _z_71 a0o =>
 keepX [] a9G a0o (opK Tryd.prog E (xBin .sub 3 (.tmp 29) (.const (Value.int .i64 1)) x6 (Value.int .i64 1)) a0o fun b3S a1i =>
 next2 [b3S] a1i))))
 (j1 [] X5)
def F9 (x0 : Value) (w : World) (R : Value → World → Prop) (E : Pan) : Prop :=
 opK Tryd.prog E (xV (Instr.box 25 x0)) w fun o9 w_2 =>
 opK Tryd.prog E (xCall (Value.func (.func 38) #[] #[]) []) w_2 fun a2C w_4 =>
 opK Tryd.prog E (xV (Op.unary .not a2C)) w_4 fun a2g w_6 =>
 xcond a2g
 (R (Value.bool false) w_6)
 (opK Tryd.prog E (xV (Instr.loadAt 25 o9)) w_6 fun a0t w_8 =>
 opK Tryd.prog E (xCall (Value.func (.func 39) #[] #[]) [a0t]) w_8 fun Y6 l9 =>
 opK Tryd.prog E (xV (Instr.extract Y6 0)) l9 fun _t14_11 q9 =>
 opK Tryd.prog E (xV (Instr.extract Y6 1)) q9 fun a5M o7 =>
 opK Tryd.prog E (xV (Instr.fieldAt 25 o9 0)) o7 fun a0C r7 =>
 opK Tryd.prog E (xV (Instr.loadAt 22 a0C)) r7 fun a0D t8 =>
 opK Tryd.prog E (xBuiltin .len #[22] 3 [false] [a0D]) t8 fun a0E u0 =>
 opK Tryd.prog E (xBin .gtr 3 (.tmp 18) (.const (Value.int .i64 100)) a0E (Value.int .i64 100)) u0 fun a0F v6 =>
 xcond a0F
 (R (Value.bool true) v6)
 (opK Tryd.prog E (xV (Instr.fieldAt 25 o9 1)) v6 fun a0G v7 =>
 opK Tryd.prog E (xV (Instr.loadAt 23 a0G)) v7 fun b4O B1 =>
 opK Tryd.prog E (xV (Instr.build 25 #[(1, b4O)])) B1 fun b4P D8 =>
 opK Tryd.prog E (xV (Instr.alloc 25 true (.tuple #[]))) D8 fun b7J E7 =>
 opK Tryd.prog E (xU (Instr.storeAt 25 b7J b4P)) E7 fun _z_31 D6 =>
 xcut (fun _ R0 => d7B a5M b7J R0 R E) fun j1 =>
 opK Tryd.prog E (xV (Instr.fieldAt 25 o9 0)) D6 fun d3s M7 =>
 opK Tryd.prog E (xV (Instr.loadAt 22 d3s)) M7 fun d3t R1 =>
 opK Tryd.prog E (xBuiltin .len #[22] 3 [false] [d3t]) R1 fun d3u X4 =>
 opK Tryd.prog E (xBin .sub 3 (.tmp 25) (.const (Value.int .i64 1)) d3u (Value.int .i64 1)) X4 fun d3v V9 =>
 xloop [6] [d3v] V9 fun τ_75 a0B next2 =>
 d7C o9 a5M b7J (τ_75 6) a0B next2 j1 R E))
noncomputable def c9 : Code := Tryd.f9.body.getD .skip
def h9 : Hint := (.seq .none (.seq (.seq .none (.cond (.seq .none .none) .none)) (.seq .none (.seq (.seq .none (.cond (.seq .none .none) .none)) (.seq .none (.cut [] (.seq .none (.block (.loop [6] (.seq (.seq .none (.cond .none .none)) (.seq (.block (.reg [(0, 2147483648, 32), (1, 4294967296, 2147483648), (0, 8589934592, 2), (4, 17179869184, 8589934592), (0, 34359738368, 64), (24, 68719476736, 51539607552), (32, 137438953472, 68719476736), (64, 274877906944, 137438953472), (130, 549755813888, 279172874240), (511, 1099511627776, 32), (1023, 0, 1649267441664)] [74, 72, 74, 66, 74, 74, 10, 2, 0, 74, 0] (.early 0 (.early 2 (.early 4 (.load 1 (.load 3 (.early 5 (.load 6 (.step 7 (.step 8 (.early 9 (.step 10 .done))))))))))))) .none))))) (.seq .none (.seq .none .none))))))))
def F13 (x0 x1 x2 : Value) (w : World) (R : Value → World → Prop) (E : Pan) : Prop :=
 opK Tryd.prog E (xV (Instr.box 25 x0)) w fun a1m w_2 =>
 opK Tryd.prog E (xCall (Value.func (.func 38) #[] #[]) []) w_2 fun d7D w_4 =>
 opK Tryd.prog E (xV (Op.unary .not d7D)) w_4 fun d7E w_6 =>
 xcond d7E
 (R (Value.bool false) w_6)
 (opK Tryd.prog E (xV (Instr.loadAt 25 a1m)) w_6 fun d7F w_8 =>
 opK Tryd.prog E (xCall (Value.func (.func 39) #[] #[]) [d7F]) w_8 fun c4b l9 =>
 opK Tryd.prog E (xV (Instr.extract c4b 0)) l9 fun _t20_11 q9 =>
 opK Tryd.prog E (xV (Instr.extract c4b 1)) q9 fun d3w o7 =>
 opK Tryd.prog E (xBin .neq 34 (.tmp 22) (.const (Value.int .i64 0)) d3w (Value.int .i64 0)) o7 fun b4Q r7 =>
 opK Tryd.prog E (gsem (asB b4Q) false (xBin .lss 3 (.tmp 25) (.const (Value.int .i64 0)) (gval (asB b4Q) false x1) (Value.int .i64 0))) r7 fun d3x t8 =>
 opK Tryd.prog E (xPick b4Q (Value.bool true) d3x) t8 fun a5N u0 =>
 opK Tryd.prog E (gsem (asB a5N) false (xBin .lss 3 (.tmp 29) (.tmp 30) (gval (asB a5N) false x2) (gval (asB a5N) false x1))) u0 fun d3y v6 =>
 opK Tryd.prog E (xPick a5N (Value.bool true) d3y) v6 fun a5O v7 =>
 opK Tryd.prog E (gsem (asB a5O) false (xV (Instr.fieldAt 25 a1m 1))) v7 fun d3z B1 =>
 opK Tryd.prog E (gsem (asB a5O) false (xV (Instr.loadAt 23 d3z))) B1 fun d3A D8 =>
 opK Tryd.prog E (gsem (asB a5O) false (xBuiltin .len #[23] 3 [false] [d3A])) D8 fun d3B E7 =>
 opK Tryd.prog E (gsem (asB a5O) false (xBin .gtr 3 (.tmp 34) (.tmp 37) (gval (asB a5O) false x2) d3B)) E7 fun d3C D6 =>
 opK Tryd.prog E (xPick a5O (Value.bool true) d3C) D6 fun d3D D9 =>
 xcond d3D
 (R (Value.bool true) D9)
 (opK Tryd.prog E (xV (Instr.loadAt 25 a1m)) D9 fun d3E J4 =>
 opK Tryd.prog E (xCall (Value.func (.func 45) #[] #[]) [d3E]) J4 fun c0f K8 =>
 opK Tryd.prog E (xV (Instr.extract c0f 0)) K8 fun d3F K3 =>
 opK Tryd.prog E (xV (Instr.extract c0f 1)) K3 fun _t44_41 M6 =>
 opK Tryd.prog E (xV (Instr.loadAt 25 a1m)) M6 fun d3G L4 =>
 opK Tryd.prog E (xCall (Value.func (.func 46) #[] #[]) [d3G]) L4 fun c0g S3 =>
 opK Tryd.prog E (xV (Instr.extract c0g 0)) S3 fun d3H R0 =>
 opK Tryd.prog E (xV (Instr.extract c0g 1)) R0 fun _t49_49 M7 =>
 dX M7 fun a7S =>
 qP Tryd.prog (xV (Instr.fieldAt 25 a1m 0)) fun c0h =>
 qP Tryd.prog (xV (Instr.fieldAt 25 a1m 1)) fun c0i =>
 qL Tryd.prog a7S (blk c0h) (xV (Instr.loadAt 22 c0h)) fun d3I =>
 qL Tryd.prog a7S (blk c0i) (xV (Instr.loadAt 23 c0i)) fun d3J =>
 qP Tryd.prog (xV (Instr.sliceAt 23 d3J (some x1) (some x2) none)) fun d3K =>
 qP Tryd.prog (xV (Instr.build 25 #[(0, d3I), (1, d3K)])) fun d3L =>
 opK Tryd.prog E (xCall (Value.func (.func 39) #[] #[]) [d3L]) a7S fun c0j a7R =>
 keepX [] a7S a7R (qP Tryd.prog (xV (Instr.extract c0j 0)) fun _t60_60 =>
 qP Tryd.prog (xV (Instr.extract c0j 1)) fun d3M =>
 opK Tryd.prog E (xBuiltin .len #[47] 3 [false] [d3F]) a7R fun d3N c3d =>
 opK Tryd.prog E (xBuiltin .len #[22] 3 [false] [d3H]) c3d fun d3O b7u =>
 opK Tryd.prog E (xBin .add 3 (.tmp 63) (.tmp 65) d3N d3O) b7u fun d3P a1O =>
 opK Tryd.prog E (xV (Instr.fieldAt 25 a1m 0)) a1O fun d3Q a9G =>
 opK Tryd.prog E (xV (Instr.loadAt 22 d3Q)) a9G fun d3R e0W =>
 opK Tryd.prog E (xBuiltin .len #[22] 3 [false] [d3R]) e0W fun d3S b1R =>
 opK Tryd.prog E (xBin .eql 3 (.tmp 66) (.tmp 69) d3P d3S) b1R fun b4R d3T =>
 opK Tryd.prog E (gsem (asB b4R) true (xBin .eql 34 (.tmp 72) (.const (Value.int .i64 0)) (gval (asB b4R) true d3M) (Value.int .i64 0))) d3T fun d3U e0X =>
 opK Tryd.prog E (xPick b4R d3U (Value.bool false)) e0X fun d3V a9B =>
 R d3V a9B)))
noncomputable def c13 : Code := Tryd.f13.body.getD .skip
def h13 : Hint := (.seq .none (.seq (.seq .none (.cond (.seq .none .none) .none)) (.seq .none (.seq (.seq .none (.cond (.seq .none .none) .none)) (.seq .none (.seq .none (.seq (.reg [(0, 2251799813685248, 8), (1, 4503599627370496, 2251799813685248), (0, 9007199254740992, 8), (4, 18014398509481984, 9007199254740992), (0, 36028797018963968, 2), (0, 72057594037927936, 4), (56, 144115188075855872, 126100789566373888), (66, 288230376151711744, 148618787703226368), (128, 576460752303423488, 288230376151711744), (256, 1125899906842624, 576460752303423488), (512, 1152921504606846976, 1125899906842624), (512, 2305843009213693952, 1125899906842624), (2047, 8192, 1152921504606846976), (8191, 16384, 2305843009213693952)] [10, 8, 10, 2, 10, 10, 10, 10, 0, 10, 10, 10, 10, 10] (.early 0 (.early 2 (.early 4 (.early 5 (.load 1 (.load 3 (.early 6 (.early 7 (.step 8 (.early 9 (.early 10 (.early 11 (.early 12 (.early 13 .done))))))))))))))) (.seq .none .none))))))))
theorem d3W (x0 x1 x2 : Value) (w : World) (R : Value → World → Prop) (E : Pan) : F13 x0 x1 x2 w R E = callX Tryd.prog [.tmp 6] c13 h13 [x0, x1, x2] w R E := by kernel_rfl
theorem d3X {x0 x1 x2 : Value} {w : World} {R : Value → World → Prop} {E : Pan} (h : F13 x0 x1 x2 w R E) : Cv Tryd.prog 13 #[x0, x1, x2] w R E := by
 refine g5 (args := [x0, x1, x2]) (c := c13) (h := h13) (rs := [.tmp 6]) Tryd.func13 (by kernel_rfl) (by kernel_rfl) (Nat.le_of_ble_eq_true (by kernel_rfl)) (by kernel_rfl) (by kernel_rfl) (by kernel_rfl) ?_
 rw [← d3W]
 exact h
def F38 (w : World) (R : Value → World → Prop) (E : Pan) : Prop :=
 opK Tryd.prog E (xV (Instr.build 67 #[(0, (Value.string ⟨#[120]⟩))])) w fun b3P w_2 =>
 opK Tryd.prog E (xV (Instr.build 67 #[(0, (Value.string ⟨#[120]⟩))])) w_2 fun a7x w_4 =>
 opK Tryd.prog E (xV (Instr.buildSlice 22 2 #[(0, b3P), (1, a7x)])) w_4 fun a5n w_6 =>
 opK Tryd.prog E (xV (Instr.build 25 #[(0, a5n)])) w_6 fun b1h w_8 =>
 opK Tryd.prog E (xCall (Value.func (.func 39) #[] #[]) [b1h]) w_8 fun a9b l9 =>
 opK Tryd.prog E (xV (Instr.extract a9b 0)) l9 fun b2I q9 =>
 opK Tryd.prog E (xV (Instr.extract a9b 1)) q9 fun b0r o7 =>
 opK Tryd.prog E (xBin .eql 9 (.tmp 11) (.const (Value.string ⟨#[120]⟩)) b2I (Value.string ⟨#[120]⟩)) o7 fun a0j r7 =>
 opK Tryd.prog E (gsem (asB a0j) true (xBin .eql 34 (.tmp 14) (.const (Value.int .i64 60)) (gval (asB a0j) true b0r) (Value.int .i64 60))) r7 fun d3Y t8 =>
 opK Tryd.prog E (xPick a0j d3Y (Value.bool false)) t8 fun d3Z u0 =>
 R d3Z u0
noncomputable def c38 : Code := Tryd.f38.body.getD .skip
def h38 : Hint := (.seq .none (.seq .none (.seq .none .none)))
theorem d4a (w : World) (R : Value → World → Prop) (E : Pan) : F38  w R E = callX Tryd.prog [.tmp 0] c38 h38 [] w R E := by kernel_rfl
theorem d4b {w : World} {R : Value → World → Prop} {E : Pan} (h : F38  w R E) : Cv Tryd.prog 38 #[] w R E := by
 refine g5 (args := []) (c := c38) (h := h38) (rs := [.tmp 0]) Tryd.func38 (by kernel_rfl) (by kernel_rfl) (Nat.zero_le _) (by kernel_rfl) (by kernel_rfl) (by kernel_rfl) ?_
 rw [← d4a]
 exact h
def b4S (x7 x9 : Value) (w : World) (R : Value → World → Prop) (_E : Pan) : Prop :=
 ∀ _τ : Fr, (R (Value.tuple #[x9, x7]) w)
def c0k (x5 x7 x9 x37 x38 x39 : Value) (w : World) (next2 : List Value → World → Prop) (j1 : List Value → World → Prop) (_R : Value → World → Prop) (E : Pan) : Prop :=
 opK Tryd.prog E (xBin .lss 3 (.tmp 39) (.tmp 38) x39 x38) w fun d4c L4 =>
 xcond d4c
 (opK Tryd.prog E (xV (Instr.indexAt 124 x37 x39)) L4 fun d4d S3 =>
 opK Tryd.prog E (xV (Instr.loadAt 128 d4d)) S3 fun d4e R0 =>
 opK Tryd.prog E (xV (Instr.alloc 128 true (.tuple #[]))) R0 fun a7T M7 =>
 opK Tryd.prog E (xU (Instr.storeAt 128 a7T d4e)) M7 fun _z_51 R1 =>
 opK Tryd.prog E (xV (Instr.fieldAt 128 a7T 0)) R1 fun d4f X4 =>
 opK Tryd.prog E (xV (Instr.loadAt 9 d4f)) X4 fun d4g V9 =>
 opK Tryd.prog E (xV (Instr.lookup 120 x5 d4g false)) V9 fun b0L X5 =>
 opK Tryd.prog E (xV (Instr.fieldAt 128 a7T 1)) X5 fun d4h Y4 =>
 opK Tryd.prog E (xV (Instr.loadAt 3 d4h)) Y4 fun d4i a0l =>
 opK Tryd.prog E (xBin .eql 3 (.tmp 46) (.tmp 51) b0L d4i) a0l fun d4j a0A =>
 xcond d4j
 (opK Tryd.prog E (xBin .add 3 (.tmp 39) (.const (Value.int .i64 1)) x39 (Value.int .i64 1)) a0A fun d4k Y5 =>
 next2 [x7, x9, d4k] Y5)
 (opK Tryd.prog E (xBin .eql 3 (.tmp 46) (.const (Value.int .i64 0)) b0L (Value.int .i64 0)) a0A fun d4l a1D =>
 xcond d4l
 (opK Tryd.prog E (xV (Instr.fieldAt 128 a7T 0)) a1D fun d4m a0m =>
 opK Tryd.prog E (xV (Instr.loadAt 9 d4m)) a0m fun d4n a0o =>
 j1 [(Value.int .i64 63), d4n] a0o)
 (opK Tryd.prog E (xV (Instr.fieldAt 128 a7T 0)) a1D fun d4o a1i =>
 opK Tryd.prog E (xV (Instr.loadAt 9 d4o)) a1i fun d4p a0B =>
 j1 [(Value.int .i64 64), d4p] a0B)))
 (j1 [x7, x9] L4)
def F39 (x0 : Value) (w : World) (R : Value → World → Prop) (E : Pan) : Prop :=
 opK Tryd.prog E (xV (Instr.box 25 x0)) w fun o9 w_2 =>
 opK Tryd.prog E (xV (Instr.loadAt 25 o9)) w_2 fun b7K w_4 =>
 opK Tryd.prog E (xCall (Value.func (.func 27) #[] #[]) [b7K]) w_4 fun c4c w_6 =>
 opK Tryd.prog E (xBin .neq 34 (.tmp 14) (.const (Value.int .i64 0)) c4c (Value.int .i64 0)) w_6 fun d7G w_8 =>
 xcond d7G
 (R (Value.tuple #[(Value.string ⟨#[]⟩), c4c]) w_8)
 (opK Tryd.prog E (xV (Instr.fieldAt 25 o9 0)) w_8 fun d7H l9 =>
 opK Tryd.prog E (xV (Instr.loadAt 22 d7H)) l9 fun d4q q9 =>
 opK Tryd.prog E (xCall (Value.func (.func 75) #[] #[]) [d4q]) q9 fun b4T o7 =>
 opK Tryd.prog E (xV (Instr.extract b4T 0)) o7 fun d4r r7 =>
 opK Tryd.prog E (xV (Instr.extract b4T 1)) r7 fun b3N t8 =>
 opK Tryd.prog E (xV (Instr.extract b4T 2)) t8 fun b4U u0 =>
 opK Tryd.prog E (xBin .neq 34 (.tmp 24) (.const (Value.int .i64 0)) b4U (Value.int .i64 0)) u0 fun b3O v6 =>
 xcond b3O
 (R (Value.tuple #[b3N, b4U]) v6)
 (opK Tryd.prog E (xV (Instr.build 126 #[])) v6 fun b3t v7 =>
 opK Tryd.prog E (xV (Instr.box 126 b3t)) v7 fun c0l B1 =>
 opK Tryd.prog E (xV (Instr.fieldAt 25 o9 1)) B1 fun d4s D8 =>
 opK Tryd.prog E (xV (Instr.loadAt 23 d4s)) D8 fun b0s E7 =>
 opK Tryd.prog E (xCall (Value.func (.func 76) #[] #[]) [c0l, b0s]) E7 fun _t33_31 D6 =>
 xcut (fun c2J D9 => b4S (nth c2J 0) (nth c2J.tail 0) D9 R E) fun j1 =>
 opK Tryd.prog E (xNil c0l) D6 fun d4t J4 =>
 opK Tryd.prog E (xV (Instr.fieldAt 126 d4t 0)) J4 fun d4u K8 =>
 opK Tryd.prog E (xV (Instr.loadAt 124 d4u)) K8 fun c0m K3 =>
 opK Tryd.prog E (xBuiltin .len #[124] 3 [false] [c0m]) K3 fun d4v M6 =>
 xloop [7, 9, 39] [b4U, (Value.string ⟨#[]⟩), (Value.int .i64 0)] M6 fun τ_77 a2f next2 =>
 c0k d4r (τ_77 7) (τ_77 9) c0m d4v (τ_77 39) a2f next2 j1 R E))
noncomputable def c39 : Code := Tryd.f39.body.getD .skip
def h39 : Hint := (.seq .none (.scope (.seq (.seq .none (.seq .none (.cond (.seq .none .none) .none))) (.seq .none (.seq (.seq .none (.cond (.seq .none .none) .none)) (.seq .none (.seq .none (.seq .none (.seq .none (.cut [7, 9] (.seq .none (.block (.loop [7, 9, 39] (.seq .none (.seq (.cond .none .none) (.seq (.block (.seq .none (.seq .none (.block (.seq .none (.cond .none (.seq .none (.cond (.seq .none .none) (.seq .none .none))))))))) .none)))))) (.seq .none .none)))))))))))
theorem d4w (x0 : Value) (w : World) (R : Value → World → Prop) (E : Pan) : F39 x0 w R E = callX Tryd.prog [.tmp 2, .tmp 3] c39 h39 [x0] w R E := by kernel_rfl
theorem d4x {x0 : Value} {w : World} {R : Value → World → Prop} {E : Pan} (h : F39 x0 w R E) : Cv Tryd.prog 39 #[x0] w R E := by
 refine g5 (args := [x0]) (c := c39) (h := h39) (rs := [.tmp 2, .tmp 3]) Tryd.func39 (by kernel_rfl) (by kernel_rfl) (Nat.le_of_ble_eq_true (by kernel_rfl)) (by kernel_rfl) (by kernel_rfl) (by kernel_rfl) ?_
 rw [← d4w]
 exact h
def b4V (x5 x6 : Value) (w : World) (R : Value → World → Prop) (_E : Pan) : Prop :=
 ∀ _τ : Fr, (R (Value.tuple #[x6, x5]) w)
def c0n (_x5 x6 x14 x15 x16 : Value) (w : World) (next2 : List Value → World → Prop) (j1 : List Value → World → Prop) (_R : Value → World → Prop) (E : Pan) : Prop :=
 opK Tryd.prog E (xBin .lss 3 (.tmp 16) (.tmp 15) x16 x15) w fun a4e r7 =>
 xcond a4e
 (opK Tryd.prog E (xV (Instr.indexAt 22 x14 x16)) r7 fun a7q t8 =>
 opK Tryd.prog E (xV (Instr.loadAt 67 a7q)) t8 fun b3v u0 =>
 opK Tryd.prog E (xV (Instr.alloc 67 true (.tuple #[]))) u0 fun c4d v6 =>
 opK Tryd.prog E (xU (Instr.storeAt 67 c4d b3v)) v6 fun _z_23 v7 =>
 opK Tryd.prog E (xV (Instr.fieldAt 67 c4d 0)) v7 fun b4O B1 =>
 opK Tryd.prog E (xV (Instr.loadAt 9 b4O)) B1 fun b4P D8 =>
 opK Tryd.prog E (xV (Instr.buildSlice 47 1 #[(0, b4P)])) D8 fun d4y E7 =>
 opK Tryd.prog E (xBuiltin .append #[47, 47] 47 [false, false] [x6, d4y]) E7 fun d4z D6 =>
 opK Tryd.prog E (xBin .add 3 (.tmp 16) (.const (Value.int .i64 1)) x16 (Value.int .i64 1)) D6 fun d4A D9 =>
 next2 [d4z, d4A] D9)
 (j1 [x6] r7)
def F45 (x0 : Value) (w : World) (R : Value → World → Prop) (E : Pan) : Prop :=
 opK Tryd.prog E (xV (Instr.box 25 x0)) w fun o9 w_2 =>
 opK Tryd.prog E (xV (Instr.loadAt 25 o9)) w_2 fun b0j w_4 =>
 opK Tryd.prog E (xCall (Value.func (.func 82) #[] #[]) [b0j, (Value.int .i64 1)]) w_4 fun a2Z w_6 =>
 opK Tryd.prog E (xV (Instr.extract a2Z 0)) w_6 fun a0t w_8 =>
 opK Tryd.prog E (xV (Instr.extract a2Z 1)) w_8 fun Y6 l9 =>
 xcut (fun b3Q q9 => b4V Y6 (nth b3Q 0) q9 R E) fun j1 =>
 opK Tryd.prog E (xBuiltin .len #[22] 3 [false] [a0t]) l9 fun a5M o7 =>
 xloop [6, 16] [(Value.slice none 0 0), (Value.int .i64 0)] o7 fun τ_35 J4 next2 =>
 c0n Y6 (τ_35 6) a0t a5M (τ_35 16) J4 next2 j1 R E
noncomputable def c45 : Code := Tryd.f45.body.getD .skip
def h45 : Hint := (.seq .none (.seq .none (.seq .none (.cut [6] (.seq .none (.block (.loop [6, 16] (.seq .none (.seq (.cond .none .none) (.seq (.block (.seq .none .none)) .none)))))) (.seq .none .none)))))
theorem d4B (x0 : Value) (w : World) (R : Value → World → Prop) (E : Pan) : F45 x0 w R E = callX Tryd.prog [.tmp 2, .tmp 3] c45 h45 [x0] w R E := by kernel_rfl
theorem d4C {x0 : Value} {w : World} {R : Value → World → Prop} {E : Pan} (h : F45 x0 w R E) : Cv Tryd.prog 45 #[x0] w R E := by
 refine g5 (args := [x0]) (c := c45) (h := h45) (rs := [.tmp 2, .tmp 3]) Tryd.func45 (by kernel_rfl) (by kernel_rfl) (Nat.le_of_ble_eq_true (by kernel_rfl)) (by kernel_rfl) (by kernel_rfl) (by kernel_rfl) ?_
 rw [← d4B]
 exact h
def F46 (x0 : Value) (w : World) (R : Value → World → Prop) (E : Pan) : Prop :=
 opK Tryd.prog E (xV (Instr.box 25 x0)) w fun o9 w_2 =>
 opK Tryd.prog E (xV (Instr.loadAt 25 o9)) w_2 fun a5q w_4 =>
 opK Tryd.prog E (xCall (Value.func (.func 82) #[] #[]) [a5q, (Value.int .i64 2)]) w_4 fun b1t w_6 =>
 opK Tryd.prog E (xV (Instr.extract b1t 0)) w_6 fun b3U w_8 =>
 opK Tryd.prog E (xV (Instr.extract b1t 1)) w_8 fun c1o l9 =>
 R (Value.tuple #[b3U, c1o]) l9
noncomputable def c46 : Code := Tryd.f46.body.getD .skip
def h46 : Hint := (.seq .none (.seq .none .none))
theorem d4D (x0 : Value) (w : World) (R : Value → World → Prop) (E : Pan) : F46 x0 w R E = callX Tryd.prog [.tmp 2, .tmp 3] c46 h46 [x0] w R E := by kernel_rfl
theorem d4E {x0 : Value} {w : World} {R : Value → World → Prop} {E : Pan} (h : F46 x0 w R E) : Cv Tryd.prog 46 #[x0] w R E := by
 refine g5 (args := [x0]) (c := c46) (h := h46) (rs := [.tmp 2, .tmp 3]) Tryd.func46 (by kernel_rfl) (by kernel_rfl) (Nat.le_of_ble_eq_true (by kernel_rfl)) (by kernel_rfl) (by kernel_rfl) (by kernel_rfl) ?_
 rw [← d4D]
 exact h
def c0o (x5 : Value) (w : World) (R : Value → World → Prop) (_E : Pan) : Prop :=
 ∀ _τ : Fr, (R (Value.tuple #[x5, (Value.string ⟨#[]⟩), (Value.int .i64 0)]) w)
def c0p (x5 x6 x13 x14 x15 : Value) (w : World) (next2 : List Value → World → Prop) (j1 : List Value → World → Prop) (R : Value → World → Prop) (E : Pan) : Prop :=
 opK Tryd.prog E (xBin .lss 3 (.tmp 15) (.tmp 14) x15 x14) w fun d4F o7 =>
 xcond d4F
 (opK Tryd.prog E (xV (Instr.indexAt 22 x13 x15)) o7 fun a4e r7 =>
 opK Tryd.prog E (xV (Instr.loadAt 67 a4e)) r7 fun a7q t8 =>
 opK Tryd.prog E (xV (Instr.alloc 67 true (.tuple #[]))) t8 fun a5f u0 =>
 opK Tryd.prog E (xU (Instr.storeAt 67 a5f a7q)) u0 fun _z_21 v6 =>
 opK Tryd.prog E (xV (Instr.loadAt 67 a5f)) v6 fun b4L v7 =>
 opK Tryd.prog E (xCall (Value.func (.func 103) #[] #[]) [b4L]) v7 fun b0M B1 =>
 opK Tryd.prog E (xV (Instr.lookup 158 x6 b0M false)) B1 fun d4G D8 =>
 opK Tryd.prog E (xBin .sub 3 (.tmp 23) (.const (Value.int .i64 1)) d4G (Value.int .i64 1)) D8 fun d4H E7 =>
 opK Tryd.prog E (xU (Instr.mapUpdate 158 x6 b0M d4H)) E7 fun _z_31 D6 =>
 opK Tryd.prog E (xV (Instr.fieldAt 67 a5f 0)) D6 fun d4I D9 =>
 opK Tryd.prog E (xV (Instr.loadAt 9 d4I)) D9 fun d4J J4 =>
 opK Tryd.prog E (xV (Instr.lookup 120 x5 d4J false)) J4 fun d4K K8 =>
 opK Tryd.prog E (xBin .neq 3 (.tmp 29) (.const (Value.int .i64 0)) d4K (Value.int .i64 0)) K8 fun d4L K3 =>
 xcond d4L
 (dX K3 fun b6z =>
 qP Tryd.prog (xV (Instr.fieldAt 67 a5f 0)) fun b0n =>
 qL Tryd.prog b6z (blk b0n) (xV (Instr.loadAt 9 b0n)) fun d4M =>
 R (Value.tuple #[(Value.map none), d4M, (Value.int .i64 60)]) b6z)
 (opK Tryd.prog E (xV (Instr.fieldAt 67 a5f 1)) K3 fun d4N a7v =>
 opK Tryd.prog E (xV (Instr.loadAt 3 d4N)) a7v fun d4O b6A =>
 opK Tryd.prog E (xBin .gtr 3 (.tmp 35) (.const (Value.int .i64 1024)) d4O (Value.int .i64 1024)) b6A fun d4P a9a =>
 xcond d4P
 (dX a9a fun M7 =>
 qP Tryd.prog (xV (Instr.fieldAt 67 a5f 0)) fun c0q =>
 qL Tryd.prog M7 (blk c0q) (xV (Instr.loadAt 9 c0q)) fun d4Q =>
 R (Value.tuple #[(Value.map none), d4Q, (Value.int .i64 61)]) M7)
 (opK Tryd.prog E (xV (Instr.lookup 158 x6 b0M false)) a9a fun d4R X4 =>
 opK Tryd.prog E (xBin .lss 3 (.tmp 42) (.const (Value.int .i64 0)) d4R (Value.int .i64 0)) X4 fun d4S V9 =>
 xcond d4S
 (dX V9 fun c2L =>
 qP Tryd.prog (xV (Instr.fieldAt 67 a5f 0)) fun c0r =>
 qL Tryd.prog c2L (blk c0r) (xV (Instr.loadAt 9 c0r)) fun d4T =>
 R (Value.tuple #[(Value.map none), d4T, (Value.int .i64 62)]) c2L)
 (opK Tryd.prog E (xV (Instr.fieldAt 67 a5f 0)) V9 fun d4U d2M =>
 opK Tryd.prog E (xV (Instr.loadAt 9 d4U)) d2M fun d4V c3d =>
 opK Tryd.prog E (xU (Instr.mapUpdate 120 x5 d4V b0M)) c3d fun _z_64 b7u =>
 opK Tryd.prog E (xBin .add 3 (.tmp 15) (.const (Value.int .i64 1)) x15 (Value.int .i64 1)) b7u fun d4W a1O =>
 next2 [d4W] a1O))))
 (j1 [] o7)
def F75 (x0 : Value) (w : World) (R : Value → World → Prop) (E : Pan) : Prop :=
 opK Tryd.prog E (xV (Instr.makeMap 120 none)) w fun a4X w_2 =>
 opK Tryd.prog E (xV (Instr.makeMap 158 none)) w_2 fun b0k w_4 =>
 opK Tryd.prog E (xU (Instr.mapUpdate 158 b0k (Value.int .i64 1) (Value.int .i64 32))) w_4 fun _z_5 w_6 =>
 opK Tryd.prog E (xU (Instr.mapUpdate 158 b0k (Value.int .i64 2) (Value.int .i64 16))) w_6 fun _z_7 w_8 =>
 xcut (fun _ l9 => c0o a4X l9 R E) fun j1 =>
 opK Tryd.prog E (xBuiltin .len #[22] 3 [false] [x0]) w_8 fun d4X q9 =>
 xloop [15] [(Value.int .i64 0)] q9 fun τ_68 a9G next2 =>
 c0p a4X b0k x0 d4X (τ_68 15) a9G next2 j1 R E
noncomputable def c75 : Code := Tryd.f75.body.getD .skip
def h75 : Hint := (.seq .none (.seq .none (.seq .none (.cut [] (.seq .none (.block (.loop [15] (.seq .none (.seq (.cond .none .none) (.seq (.block (.seq .none (.seq .none (.seq .none (.seq (.block (.seq .none (.cond (.seq (.reg [(0, 2147483648, 256), (1, 4294967296, 2147483648), (0, 4, 0), (7, 8, 4294967296), (15, 16, 0)] [2, 0, 2, 2, 2] (.early 0 (.early 2 (.load 1 (.early 3 (.early 4 .done)))))) .none) (.seq .none (.cond (.seq (.reg [(0, 137438953472, 256), (1, 274877906944, 137438953472), (0, 4, 0), (7, 8, 274877906944), (15, 16, 0)] [2, 0, 2, 2, 2] (.early 0 (.early 2 (.load 1 (.early 3 (.early 4 .done)))))) .none) (.seq .none (.cond (.seq (.reg [(0, 17592186044416, 256), (1, 35184372088832, 17592186044416), (0, 4, 0), (7, 8, 35184372088832), (15, 16, 0)] [2, 0, 2, 2, 2] (.early 0 (.early 2 (.load 1 (.early 3 (.early 4 .done)))))) .none) .none))))))) .none))))) .none)))))) (.seq .none .none)))))
theorem d4Y (x0 : Value) (w : World) (R : Value → World → Prop) (E : Pan) : F75 x0 w R E = callX Tryd.prog [.tmp 2, .tmp 3, .tmp 4] c75 h75 [x0] w R E := by kernel_rfl
theorem d4Z {x0 : Value} {w : World} {R : Value → World → Prop} {E : Pan} (h : F75 x0 w R E) : Cv Tryd.prog 75 #[x0] w R E := by
 refine g5 (args := [x0]) (c := c75) (h := h75) (rs := [.tmp 2, .tmp 3, .tmp 4]) Tryd.func75 (by kernel_rfl) (by kernel_rfl) (Nat.le_of_ble_eq_true (by kernel_rfl)) (by kernel_rfl) (by kernel_rfl) (by kernel_rfl) ?_
 rw [← d4Y]
 exact h
def b4W (_x0 _x10 _x11 x12 : Value) (w : World) (next1 : List Value → World → Prop) (_R : Value → World → Prop) (E : Pan) : Prop :=
 ∀ _τ : Fr, (opK Tryd.prog E (xBin .add 3 (.tmp 12) (.const (Value.int .i64 1)) x12 (Value.int .i64 1)) w fun d7I w_6 =>
 next1 [d7I] w_6)
def b4X (x0 x5 _x10 _x11 _x12 : Value) (w : World) (j2 : List Value → World → Prop) (_R : Value → World → Prop) (E : Pan) : Prop :=
 ∀ _τ : Fr, (opK Tryd.prog E (xV (Instr.fieldAt 88 x5 4)) w fun d5a t8 =>
 opK Tryd.prog E (xV (Instr.loadAt 23 d5a)) t8 fun d5b u0 =>
 opK Tryd.prog E (xCall (Value.func (.func 76) #[] #[]) [x0, d5b]) u0 fun _t71_21 v6 =>
 opK Tryd.prog E (xV (Instr.fieldAt 88 x5 5)) v6 fun d5c v7 =>
 opK Tryd.prog E (xV (Instr.loadAt 23 d5c)) v7 fun d5d B1 =>
 opK Tryd.prog E (xCall (Value.func (.func 76) #[] #[]) [x0, d5d]) B1 fun _t75_27 D8 =>
 j2 [] D8)
def c0s (x0 _x5 _x10 _x11 _x12 x58 x59 x60 : Value) (w : World) (next6 : List Value → World → Prop) (j5 : List Value → World → Prop) (_R : Value → World → Prop) (E : Pan) : Prop :=
 opK Tryd.prog E (xBin .lss 3 (.tmp 60) (.tmp 59) x60 x59) w fun d5e K8 =>
 xcond d5e
 (opK Tryd.prog E (xV (Instr.indexAt 28 x58 x60)) K8 fun d5f K3 =>
 opK Tryd.prog E (xV (Instr.loadAt 30 d5f)) K3 fun d5g M6 =>
 opK Tryd.prog E (xV (Instr.alloc 30 true (.tuple #[]))) M6 fun c4e L4 =>
 opK Tryd.prog E (xU (Instr.storeAt 30 c4e d5g)) L4 fun _z_45 S3 =>
 opK Tryd.prog E (xV (Instr.loadAt 30 c4e)) S3 fun d5h R0 =>
 opK Tryd.prog E (xCall (Value.func (.func 105) #[] #[]) [x0, d5h]) R0 fun _t66_49 M7 =>
 opK Tryd.prog E (xBin .add 3 (.tmp 60) (.const (Value.int .i64 1)) x60 (Value.int .i64 1)) M7 fun d5i R1 =>
 next6 [d5i] R1)
 (j5 [] K8)
def b4Y (x0 x5 x10 x11 x12 : Value) (w : World) (j2 : List Value → World → Prop) (R : Value → World → Prop) (E : Pan) : Prop :=
 ∀ _τ : Fr, (xcut (fun _ E7 => b4X x0 x5 x10 x11 x12 E7 j2 R E) fun j5 =>
 opK Tryd.prog E (xV (Instr.fieldAt 88 x5 2)) w fun d5j D6 =>
 opK Tryd.prog E (xV (Instr.loadAt 28 d5j)) D6 fun c0t D9 =>
 opK Tryd.prog E (xBuiltin .len #[28] 3 [false] [c0t]) D9 fun d5k J4 =>
 xloop [60] [(Value.int .i64 0)] J4 fun τ_53 X4 next6 =>
 c0s x0 x5 x10 x11 x12 c0t d5k (τ_53 60) X4 next6 j5 R E)
def c0u (x0 _x5 _x10 _x11 _x12 x47 x48 x49 : Value) (w : World) (next7 : List Value → World → Prop) (j4 : List Value → World → Prop) (_R : Value → World → Prop) (E : Pan) : Prop :=
 opK Tryd.prog E (xBin .lss 3 (.tmp 49) (.tmp 48) x49 x48) w fun d5l a0A =>
 xcond d5l
 (opK Tryd.prog E (xV (Instr.indexAt 31 x47 x49)) a0A fun d5m Y5 =>
 opK Tryd.prog E (xV (Instr.loadAt 33 d5m)) Y5 fun d5n a1D =>
 opK Tryd.prog E (xV (Instr.alloc 33 true (.tuple #[]))) a1D fun c4f a0m =>
 opK Tryd.prog E (xU (Instr.storeAt 33 c4f d5n)) a0m fun _z_71 a0o =>
 opK Tryd.prog E (xV (Instr.loadAt 33 c4f)) a0o fun d5o a1i =>
 opK Tryd.prog E (xCall (Value.func (.func 104) #[] #[]) [x0, d5o]) a1i fun _t55_75 a0B =>
 opK Tryd.prog E (xBin .add 3 (.tmp 49) (.const (Value.int .i64 1)) x49 (Value.int .i64 1)) a0B fun d5p a2f =>
 next7 [d5p] a2f)
 (j4 [] a0A)
def b4Z (x0 x5 x10 x11 x12 : Value) (w : World) (j2 : List Value → World → Prop) (R : Value → World → Prop) (E : Pan) : Prop :=
 ∀ _τ : Fr, (xcut (fun _ V9 => b4Y x0 x5 x10 x11 x12 V9 j2 R E) fun j4 =>
 opK Tryd.prog E (xV (Instr.fieldAt 88 x5 3)) w fun b0L X5 =>
 opK Tryd.prog E (xV (Instr.loadAt 31 b0L)) X5 fun c0v Y4 =>
 opK Tryd.prog E (xBuiltin .len #[31] 3 [false] [c0v]) Y4 fun d5q a0l =>
 xloop [49] [(Value.int .i64 0)] a0l fun τ_79 a2B next7 =>
 c0u x0 x5 x10 x11 x12 c0v d5q (τ_79 49) a2B next7 j4 R E)
def c0w (x0 x10 x11 x12 : Value) (w : World) (next1 : List Value → World → Prop) (R : Value → World → Prop) (E : Pan) : Prop :=
 opK Tryd.prog E (xBin .lss 3 (.tmp 12) (.tmp 11) x12 x11) w fun d7J w_4 =>
 xcond d7J
 (xcut (fun _ w_8 => b4W x0 x10 x11 x12 w_8 next1 R E) fun j2 =>
 opK Tryd.prog E (xV (Instr.indexAt 23 x10 x12)) w_4 fun a2e l9 =>
 opK Tryd.prog E (xV (Instr.loadAt 88 a2e)) l9 fun a4d q9 =>
 opK Tryd.prog E (xV (Instr.alloc 88 true (.tuple #[]))) q9 fun b0N o7 =>
 opK Tryd.prog E (xU (Instr.storeAt 88 b0N a4d)) o7 fun _z_15 r7 =>
 xcut (fun _ a3s => b4Z x0 b0N x10 x11 x12 a3s j2 R E) fun j3 =>
 opK Tryd.prog E (xV (Instr.fieldAt 88 b0N 0)) r7 fun d5r a5o =>
 opK Tryd.prog E (xV (Instr.loadAt 3 d5r)) a5o fun c0x a5p =>
 opK Tryd.prog E (xBin .eql 3 (.tmp 17) (.const (Value.int .i64 1)) c0x (Value.int .i64 1)) a5p fun d5s a3t =>
 xcond d5s
 (dX a3t fun b7L =>
 qP Tryd.prog (xNil x0) fun d5t =>
 qP Tryd.prog (xV (Instr.fieldAt 126 d5t 0)) fun b5a =>
 qP Tryd.prog (xV (Instr.fieldAt 88 b0N 1)) fun c0y =>
 qL Tryd.prog b7L (blk b5a) (xV (Instr.loadAt 124 b5a)) fun d5u =>
 qL Tryd.prog b7L (blk c0y) (xV (Instr.loadAt 9 c0y)) fun d5v =>
 qP Tryd.prog (xV (Instr.build 128 #[(0, d5v), (1, (Value.int .i64 1))])) fun d5w =>
 opK Tryd.prog E (xV (Instr.buildSlice 124 1 #[(0, d5w)])) b7L fun d5x c3e =>
 keepX [(blk b5a)] b7L c3e (opK Tryd.prog E (xBuiltin .append #[124, 124] 124 [false, false] [d5u, d5x]) c3e fun d5y c3f =>
 keepX [] c3e c3f (qP Tryd.prog (xNil x0) fun c6L =>
 qP Tryd.prog (xV (Instr.fieldAt 126 c6L 0)) fun c6M =>
 opK Tryd.prog E (xU (Instr.storeAt 124 c6M d5y)) c3f fun _z_102 c4g =>
 keepX [] c3f c4g (j3 [] c4g))))
 (opK Tryd.prog E (xBin .eql 3 (.tmp 17) (.const (Value.int .i64 2)) c0x (Value.int .i64 2)) a3t fun c6N c4h =>
 xcond c6N
 (dX c4h fun a3H =>
 qP Tryd.prog (xNil x0) fun c6O =>
 qP Tryd.prog (xV (Instr.fieldAt 126 c6O 0)) fun b1Y =>
 qP Tryd.prog (xV (Instr.fieldAt 88 b0N 1)) fun b5W =>
 qL Tryd.prog a3H (blk b1Y) (xV (Instr.loadAt 124 b1Y)) fun c6P =>
 qL Tryd.prog a3H (blk b5W) (xV (Instr.loadAt 9 b5W)) fun c6Q =>
 qP Tryd.prog (xV (Instr.build 128 #[(0, c6Q), (1, (Value.int .i64 2))])) fun c6R =>
 opK Tryd.prog E (xV (Instr.buildSlice 124 1 #[(0, c6R)])) a3H fun c6S a4Z =>
 keepX [(blk b1Y)] a3H a4Z (opK Tryd.prog E (xBuiltin .append #[124, 124] 124 [false, false] [c6P, c6S]) a4Z fun c6T a6o =>
 keepX [] a4Z a6o (qP Tryd.prog (xNil x0) fun c6U =>
 qP Tryd.prog (xV (Instr.fieldAt 126 c6U 0)) fun c6V =>
 opK Tryd.prog E (xU (Instr.storeAt 124 c6V c6T)) a6o fun _z_119 a8i =>
 keepX [] a6o a8i (j3 [] a8i))))
 (j3 [] c4h)))
 (R (Value.tuple #[]) w_4)
def F76 (x0 x1 : Value) (w : World) (R : Value → World → Prop) (E : Pan) : Prop :=
 opK Tryd.prog E (xBuiltin .len #[23] 3 [false] [x1]) w fun d7K w_2 =>
 xloop [12] [(Value.int .i64 0)] w_2 fun τ_121 b6Z next1 =>
 c0w x0 x1 d7K (τ_121 12) b6Z next1 R E
noncomputable def c76 : Code := Tryd.f76.body.getD .skip
def h76 : Hint := (.seq .none (.block (.loop [12] (.seq .none (.seq (.cond .none .none) (.cut [] (.block (.seq .none (.cut [] (.seq .none (.block (.seq .none (.cond (.reg [(0, 1048576, 1), (0, 2097152, 1), (2, 4194304, 2097152), (4, 8388608, 4194304), (8, 16777216, 8388608), (0, 33554432, 32), (32, 67108864, 33554432), (64, 134217728, 67108864), (128, 268435456, 134217728), (272, 536870912, 285212672), (1023, 1073741824, 1048576), (2047, 2147483648, 1073741824), (3071, 0, 2684354560)] [80, 80, 80, 80, 64, 80, 16, 80, 16, 0, 80, 80, 0] (.early 0 (.early 1 (.early 2 (.early 3 (.early 5 (.load 4 (.load 6 (.early 7 (.step 8 (.step 9 (.early 10 (.early 11 (.step 12 .done)))))))))))))) (.seq .none (.cond (.reg [(0, 17179869184, 1), (0, 34359738368, 1), (2, 68719476736, 34359738368), (4, 137438953472, 68719476736), (8, 274877906944, 137438953472), (0, 549755813888, 32), (32, 1099511627776, 549755813888), (64, 2199023255552, 1099511627776), (128, 4398046511104, 2199023255552), (272, 8796093022208, 4672924418048), (1023, 17592186044416, 17179869184), (2047, 35184372088832, 17592186044416), (3071, 0, 43980465111040)] [80, 80, 80, 80, 64, 80, 16, 80, 16, 0, 80, 80, 0] (.early 0 (.early 1 (.early 2 (.early 3 (.early 5 (.load 4 (.load 6 (.early 7 (.step 8 (.step 9 (.early 10 (.early 11 (.step 12 .done)))))))))))))) .none)))))) (.cut [] (.seq .none (.block (.loop [49] (.seq .none (.seq (.cond .none .none) (.seq (.block (.seq .none .none)) .none)))))) (.cut [] (.seq .none (.block (.loop [60] (.seq .none (.seq (.cond .none .none) (.seq (.block (.seq .none .none)) .none)))))) (.seq .none .none)))))) .none))))))
theorem d5z (x0 x1 : Value) (w : World) (R : Value → World → Prop) (E : Pan) : F76 x0 x1 w R E = callX Tryd.prog [] c76 h76 [x0, x1] w R E := by kernel_rfl
theorem d5A {x0 x1 : Value} {w : World} {R : Value → World → Prop} {E : Pan} (h : F76 x0 x1 w R E) : Cv Tryd.prog 76 #[x0, x1] w R E := by
 refine g5 (args := [x0, x1]) (c := c76) (h := h76) (rs := []) Tryd.func76 (by kernel_rfl) (by kernel_rfl) (Nat.le_of_ble_eq_true (by kernel_rfl)) (by kernel_rfl) (by kernel_rfl) (by kernel_rfl) ?_
 rw [← d5z]
 exact h
def F82 (x0 x1 : Value) (w : World) (R : Value → World → Prop) (E : Pan) : Prop :=
 opK Tryd.prog E (xV (Instr.box 25 x0)) w fun a4J w_2 =>
 opK Tryd.prog E (xV (Instr.box 3 x1)) w_2 fun T7 w_4 =>
 opK Tryd.prog E (xV (Instr.loadAt 25 a4J)) w_4 fun b3T w_6 =>
 opK Tryd.prog E (xCall (Value.func (.func 39) #[] #[]) [b3T]) w_6 fun c4i w_8 =>
 opK Tryd.prog E (xV (Instr.extract c4i 0)) w_8 fun _t11_9 l9 =>
 opK Tryd.prog E (xV (Instr.extract c4i 1)) l9 fun c0z q9 =>
 opK Tryd.prog E (xBin .neq 34 (.tmp 13) (.const (Value.int .i64 0)) c0z (Value.int .i64 0)) q9 fun d5B o7 =>
 xcond d5B
 (R (Value.tuple #[(Value.slice none 0 0), c0z]) o7)
 (opK Tryd.prog E (xV (Instr.fieldAt 25 a4J 0)) o7 fun a0C r7 =>
 opK Tryd.prog E (xV (Instr.loadAt 22 a0C)) r7 fun a0D t8 =>
 opK Tryd.prog E (xCall (Value.func (.func 77) #[] #[]) [a0D]) t8 fun a0E u0 =>
 opK Tryd.prog E (xV (Instr.makeFunc (.func 113) #[] #[T7])) u0 fun a0F v6 =>
 opK Tryd.prog E (xCall (Value.func (.func 112) #[] #[]) [a0E, a0F]) v6 fun a0G v7 =>
 R (Value.tuple #[a0G, (Value.int .i64 0)]) v7)
noncomputable def c82 : Code := Tryd.f82.body.getD .skip
def h82 : Hint := (.seq .none (.seq (.seq .none (.seq .none (.cond (.seq .none .none) .none))) (.seq .none .none)))
theorem d5C (x0 x1 : Value) (w : World) (R : Value → World → Prop) (E : Pan) : F82 x0 x1 w R E = callX Tryd.prog [.tmp 4, .tmp 5] c82 h82 [x0, x1] w R E := by kernel_rfl
theorem d5D {x0 x1 : Value} {w : World} {R : Value → World → Prop} {E : Pan} (h : F82 x0 x1 w R E) : Cv Tryd.prog 82 #[x0, x1] w R E := by
 refine g5 (args := [x0, x1]) (c := c82) (h := h82) (rs := [.tmp 4, .tmp 5]) Tryd.func82 (by kernel_rfl) (by kernel_rfl) (Nat.le_of_ble_eq_true (by kernel_rfl)) (by kernel_rfl) (by kernel_rfl) (by kernel_rfl) ?_
 rw [← d5C]
 exact h
def b7M (x0 : Value) (w : World) (R : Value → World → Prop) (E : Pan) : Prop :=
 opK Tryd.prog E (xV (Instr.box 67 x0)) w fun o9 w_2 =>
 opK Tryd.prog E (xV (Instr.fieldAt 67 o9 1)) w_2 fun T7 w_4 =>
 opK Tryd.prog E (xV (Instr.loadAt 3 T7)) w_4 fun V8 w_6 =>
 opK Tryd.prog E (xBin .gtr 3 (.tmp 4) (.const (Value.int .i64 0)) V8 (Value.int .i64 0)) w_6 fun a1C w_8 =>
 xcond a1C
 (R (Value.int .i64 2) w_8)
 (R (Value.int .i64 1) w_8)
noncomputable def d5E : Code := Tryd.f103.body.getD .skip
def d5F : Hint := (.seq .none (.seq (.seq .none (.cond (.seq .none .none) .none)) (.seq .none .none)))
theorem c6W (x0 : Value) (w : World) (R : Value → World → Prop) (E : Pan) : b7M x0 w R E = callX Tryd.prog [.tmp 2] d5E d5F [x0] w R E := by kernel_rfl
theorem c6X {x0 : Value} {w : World} {R : Value → World → Prop} {E : Pan} (h : b7M x0 w R E) : Cv Tryd.prog 103 #[x0] w R E := by
 refine g5 (args := [x0]) (c := d5E) (h := d5F) (rs := [.tmp 2]) Tryd.func103 (by kernel_rfl) (by kernel_rfl) (Nat.le_of_ble_eq_true (by kernel_rfl)) (by kernel_rfl) (by kernel_rfl) (by kernel_rfl) ?_
 rw [← c6W]
 exact h
def b5X (x0 x20 x21 x22 : Value) (w : World) (next2 : List Value → World → Prop) (R : Value → World → Prop) (E : Pan) : Prop :=
 opK Tryd.prog E (xBin .lss 3 (.tmp 22) (.tmp 21) x22 x21) w fun d7L l9 =>
 xcond d7L
 (opK Tryd.prog E (xV (Instr.indexAt 31 x20 x22)) l9 fun d5G q9 =>
 opK Tryd.prog E (xV (Instr.loadAt 33 d5G)) q9 fun d5H o7 =>
 opK Tryd.prog E (xV (Instr.alloc 33 true (.tuple #[]))) o7 fun c4j r7 =>
 opK Tryd.prog E (xU (Instr.storeAt 33 c4j d5H)) r7 fun _z_17 t8 =>
 opK Tryd.prog E (xV (Instr.loadAt 33 c4j)) t8 fun a5N u0 =>
 opK Tryd.prog E (xCall (Value.func (.func 104) #[] #[]) [x0, a5N]) u0 fun _t28_21 v6 =>
 opK Tryd.prog E (xBin .add 3 (.tmp 22) (.const (Value.int .i64 1)) x22 (Value.int .i64 1)) v6 fun d5I v7 =>
 next2 [d5I] v7)
 (R (Value.tuple #[]) l9)
def b1Z (x0 x3 : Value) (w : World) (R : Value → World → Prop) (E : Pan) : Prop :=
 ∀ _τ : Fr, (opK Tryd.prog E (xV (Instr.fieldAt 33 x3 3)) w fun d7M w_4 =>
 opK Tryd.prog E (xV (Instr.loadAt 31 d7M)) w_4 fun c4k w_6 =>
 opK Tryd.prog E (xBuiltin .len #[31] 3 [false] [c4k]) w_6 fun d7N w_8 =>
 xloop [22] [(Value.int .i64 0)] w_8 fun τ_25 B1 next2 =>
 b5X x0 c4k d7N (τ_25 22) B1 next2 R E)
def b5Y (x0 _x3 x9 x10 x11 : Value) (w : World) (next3 : List Value → World → Prop) (j1 : List Value → World → Prop) (_R : Value → World → Prop) (E : Pan) : Prop :=
 opK Tryd.prog E (xBin .lss 3 (.tmp 11) (.tmp 10) x11 x10) w fun d5J J4 =>
 xcond d5J
 (opK Tryd.prog E (xV (Instr.indexAt 28 x9 x11)) J4 fun a7U K8 =>
 opK Tryd.prog E (xV (Instr.loadAt 30 a7U)) K8 fun b5b K3 =>
 opK Tryd.prog E (xV (Instr.alloc 30 true (.tuple #[]))) K3 fun c4l M6 =>
 opK Tryd.prog E (xU (Instr.storeAt 30 c4l b5b)) M6 fun _z_43 L4 =>
 opK Tryd.prog E (xV (Instr.loadAt 30 c4l)) L4 fun b0t S3 =>
 opK Tryd.prog E (xCall (Value.func (.func 105) #[] #[]) [x0, b0t]) S3 fun _t17_47 R0 =>
 opK Tryd.prog E (xBin .add 3 (.tmp 11) (.const (Value.int .i64 1)) x11 (Value.int .i64 1)) R0 fun b0u M7 =>
 next3 [b0u] M7)
 (j1 [] J4)
def b7N (x0 x1 : Value) (w : World) (R : Value → World → Prop) (E : Pan) : Prop :=
 opK Tryd.prog E (xV (Instr.box 33 x1)) w fun a1m w_2 =>
 xcut (fun _ D8 => b1Z x0 a1m D8 R E) fun j1 =>
 opK Tryd.prog E (xV (Instr.fieldAt 33 a1m 2)) w_2 fun d7O E7 =>
 opK Tryd.prog E (xV (Instr.loadAt 28 d7O)) E7 fun c4m D6 =>
 opK Tryd.prog E (xBuiltin .len #[28] 3 [false] [c4m]) D6 fun d5K D9 =>
 xloop [11] [(Value.int .i64 0)] D9 fun τ_51 R1 next3 =>
 b5Y x0 a1m c4m d5K (τ_51 11) R1 next3 j1 R E
noncomputable def d5L : Code := Tryd.f104.body.getD .skip
def d5M : Hint := (.seq .none (.cut [] (.seq .none (.block (.loop [11] (.seq .none (.seq (.cond .none .none) (.seq (.block (.seq .none .none)) .none)))))) (.seq .none (.block (.loop [22] (.seq .none (.seq (.cond .none .none) (.seq (.block (.seq .none .none)) .none))))))))
theorem c6Y (x0 x1 : Value) (w : World) (R : Value → World → Prop) (E : Pan) : b7N x0 x1 w R E = callX Tryd.prog [] d5L d5M [x0, x1] w R E := by kernel_rfl
theorem c6Z {x0 x1 : Value} {w : World} {R : Value → World → Prop} {E : Pan} (h : b7N x0 x1 w R E) : Cv Tryd.prog 104 #[x0, x1] w R E := by
 refine g5 (args := [x0, x1]) (c := d5L) (h := d5M) (rs := []) Tryd.func104 (by kernel_rfl) (by kernel_rfl) (Nat.le_of_ble_eq_true (by kernel_rfl)) (by kernel_rfl) (by kernel_rfl) (by kernel_rfl) ?_
 rw [← c6Y]
 exact h
def b5Z (x0 x37 x38 x39 : Value) (w : World) (next2 : List Value → World → Prop) (R : Value → World → Prop) (E : Pan) : Prop :=
 opK Tryd.prog E (xBin .lss 3 (.tmp 39) (.tmp 38) x39 x38) w fun d7P l9 =>
 xcond d7P
 (opK Tryd.prog E (xV (Instr.indexAt 28 x37 x39)) l9 fun d5N q9 =>
 opK Tryd.prog E (xV (Instr.loadAt 30 d5N)) q9 fun d5O o7 =>
 opK Tryd.prog E (xV (Instr.alloc 30 true (.tuple #[]))) o7 fun c4n r7 =>
 opK Tryd.prog E (xU (Instr.storeAt 30 c4n d5O)) r7 fun _z_17 t8 =>
 opK Tryd.prog E (xV (Instr.loadAt 30 c4n)) t8 fun d5P u0 =>
 opK Tryd.prog E (xCall (Value.func (.func 105) #[] #[]) [x0, d5P]) u0 fun _t45_21 v6 =>
 opK Tryd.prog E (xBin .add 3 (.tmp 39) (.const (Value.int .i64 1)) x39 (Value.int .i64 1)) v6 fun d5Q v7 =>
 next2 [d5Q] v7)
 (R (Value.tuple #[]) l9)
def b2a (x0 x3 : Value) (w : World) (R : Value → World → Prop) (E : Pan) : Prop :=
 ∀ _τ : Fr, (opK Tryd.prog E (xV (Instr.fieldAt 30 x3 3)) w fun d7Q w_4 =>
 opK Tryd.prog E (xV (Instr.loadAt 28 d7Q)) w_4 fun c4o w_6 =>
 opK Tryd.prog E (xBuiltin .len #[28] 3 [false] [c4o]) w_6 fun d7R w_8 =>
 xloop [39] [(Value.int .i64 0)] w_8 fun τ_25 B1 next2 =>
 b5Z x0 c4o d7R (τ_25 39) B1 next2 R E)
def b7O (x0 x1 : Value) (w : World) (R : Value → World → Prop) (E : Pan) : Prop :=
 opK Tryd.prog E (xV (Instr.box 30 x1)) w fun a1m w_2 =>
 xcut (fun _ D8 => b2a x0 a1m D8 R E) fun j1 =>
 opK Tryd.prog E (xV (Instr.fieldAt 30 a1m 0)) w_2 fun d7S E7 =>
 opK Tryd.prog E (xV (Instr.loadAt 3 d7S)) E7 fun c4p D6 =>
 opK Tryd.prog E (xBin .eql 3 (.tmp 7) (.const (Value.int .i64 2)) c4p (Value.int .i64 2)) D6 fun d7T D9 =>
 xcond d7T
 (dX D9 fun b4s =>
 qP Tryd.prog (xNil x0) fun d5R =>
 qP Tryd.prog (xV (Instr.fieldAt 126 d5R 0)) fun a7U =>
 qP Tryd.prog (xV (Instr.fieldAt 30 a1m 2)) fun c0A =>
 qL Tryd.prog b4s (blk a7U) (xV (Instr.loadAt 124 a7U)) fun b5b =>
 qL Tryd.prog b4s (blk c0A) (xV (Instr.loadAt 9 c0A)) fun d5S =>
 qP Tryd.prog (xV (Instr.build 128 #[(0, d5S), (1, (Value.int .i64 1))])) fun d5T =>
 opK Tryd.prog E (xV (Instr.buildSlice 124 1 #[(0, d5T)])) b4s fun d5U b3J =>
 keepX [(blk a7U)] b4s b3J (opK Tryd.prog E (xBuiltin .append #[124, 124] 124 [false, false] [b5b, d5U]) b3J fun d5V a7v =>
 keepX [] b3J a7v (qP Tryd.prog (xNil x0) fun d5W =>
 qP Tryd.prog (xV (Instr.fieldAt 126 d5W 0)) fun d5X =>
 opK Tryd.prog E (xU (Instr.storeAt 124 d5X d5V)) a7v fun _z_48 a9a =>
 keepX [] a7v a9a (j1 [] a9a))))
 (opK Tryd.prog E (xBin .eql 3 (.tmp 7) (.const (Value.int .i64 4)) c4p (Value.int .i64 4)) D9 fun d5Y a7S =>
 xcond d5Y
 (dX a7S fun R1 =>
 qP Tryd.prog (xNil x0) fun d5Z =>
 qP Tryd.prog (xV (Instr.fieldAt 126 d5Z 0)) fun b5c =>
 qP Tryd.prog (xV (Instr.fieldAt 30 a1m 2)) fun c0B =>
 qL Tryd.prog R1 (blk b5c) (xV (Instr.loadAt 124 b5c)) fun d6a =>
 qL Tryd.prog R1 (blk c0B) (xV (Instr.loadAt 9 c0B)) fun d6b =>
 qP Tryd.prog (xV (Instr.build 128 #[(0, d6b), (1, (Value.int .i64 2))])) fun d6c =>
 opK Tryd.prog E (xV (Instr.buildSlice 124 1 #[(0, d6c)])) R1 fun b4b Y4 =>
 keepX [(blk b5c)] R1 Y4 (opK Tryd.prog E (xBuiltin .append #[124, 124] 124 [false, false] [d6a, b4b]) Y4 fun a5C a0l =>
 keepX [] Y4 a0l (qP Tryd.prog (xNil x0) fun a7D =>
 qP Tryd.prog (xV (Instr.fieldAt 126 a7D 0)) fun d6d =>
 opK Tryd.prog E (xU (Instr.storeAt 124 d6d a5C)) a0l fun _z_65 Y5 =>
 keepX [] a0l Y5 (j1 [] Y5))))
 (j1 [] a7S))
noncomputable def d6e : Code := Tryd.f105.body.getD .skip
def d6f : Hint := (.seq .none (.cut [] (.seq .none (.block (.seq .none (.cond (.reg [(0, 1024, 1), (0, 2048, 1), (2, 4096, 2048), (4, 8192, 4096), (8, 16384, 8192), (0, 32768, 8), (32, 65536, 32768), (64, 131072, 65536), (128, 262144, 131072), (272, 524288, 278528), (1023, 1048576, 1024), (2047, 2097152, 1048576), (3071, 0, 2621440)] [80, 80, 80, 80, 64, 80, 16, 80, 16, 0, 80, 80, 0] (.early 0 (.early 1 (.early 2 (.early 3 (.early 5 (.load 4 (.load 6 (.early 7 (.step 8 (.step 9 (.early 10 (.early 11 (.step 12 .done)))))))))))))) (.seq .none (.cond (.reg [(0, 16777216, 1), (0, 33554432, 1), (2, 67108864, 33554432), (4, 134217728, 67108864), (8, 268435456, 134217728), (0, 536870912, 8), (32, 1073741824, 536870912), (64, 2147483648, 1073741824), (128, 4294967296, 2147483648), (272, 8589934592, 4563402752), (1023, 17179869184, 16777216), (2047, 34359738368, 17179869184), (3071, 0, 42949672960)] [80, 80, 80, 80, 64, 80, 16, 80, 16, 0, 80, 80, 0] (.early 0 (.early 1 (.early 2 (.early 3 (.early 5 (.load 4 (.load 6 (.early 7 (.step 8 (.step 9 (.early 10 (.early 11 (.step 12 .done)))))))))))))) .none)))))) (.seq .none (.block (.loop [39] (.seq .none (.seq (.cond .none .none) (.seq (.block (.seq .none .none)) .none))))))))
theorem c7a (x0 x1 : Value) (w : World) (R : Value → World → Prop) (E : Pan) : b7O x0 x1 w R E = callX Tryd.prog [] d6e d6f [x0, x1] w R E := by kernel_rfl
theorem c7b {x0 x1 : Value} {w : World} {R : Value → World → Prop} {E : Pan} (h : b7O x0 x1 w R E) : Cv Tryd.prog 105 #[x0, x1] w R E := by
 refine g5 (args := [x0, x1]) (c := d6e) (h := d6f) (rs := []) Tryd.func105 (by kernel_rfl) (by kernel_rfl) (Nat.le_of_ble_eq_true (by kernel_rfl)) (by kernel_rfl) (by kernel_rfl) (by kernel_rfl) ?_
 rw [← c7a]
 exact h
def b6a (x0 x5 : Value) (w : World) (R : Value → World → Prop) (E : Pan) : Prop :=
 ∀ _τ : Fr, (opK Tryd.prog E (xV (Instr.sliceAt 22 x0 (some x5) none none)) w fun d7U w_6 =>
 opK Tryd.prog E (xBuiltin .clear #[22] 0 [false] [d7U]) w_6 fun _z_7 w_8 =>
 opK Tryd.prog E (xV (Instr.sliceAt 22 x0 none (some x5) none)) w_8 fun d7V l9 =>
 R d7V l9)
def b2b (_x0 _x1 x5 x6 : Value) (w : World) (next2 : List Value → World → Prop) (_R : Value → World → Prop) (E : Pan) : Prop :=
 ∀ _τ : Fr, (opK Tryd.prog E (xBin .add 3 (.tmp 20) (.const (Value.int .i64 1)) x6 (Value.int .i64 1)) w fun b3M u0 =>
 next2 [x5, b3M] u0)
def b6b (x0 x1 x5 x6 : Value) (w : World) (next2 : List Value → World → Prop) (j1 : List Value → World → Prop) (R : Value → World → Prop) (E : Pan) : Prop :=
 opK Tryd.prog E (xBuiltin .len #[22] 3 [false] [x0]) w fun d6g r7 =>
 opK Tryd.prog E (xBin .lss 3 (.tmp 16) (.tmp 18) x6 d6g) r7 fun d6h t8 =>
 xcond d6h
 (xcut (fun e0Y v6 => b2b x0 x1 (nth e0Y 0) x6 v6 next2 R E) fun j3 =>
 opK Tryd.prog E (xV (Instr.indexAt 22 x0 x6)) t8 fun d6i v7 =>
 opK Tryd.prog E (xV (Instr.loadAt 67 d6i)) v7 fun d6j B1 =>
 opK Tryd.prog E (xV (Instr.alloc 67 true (.tuple #[]))) B1 fun b0q D8 =>
 opK Tryd.prog E (xU (Instr.storeAt 67 b0q d6j)) D8 fun _z_29 E7 =>
 opK Tryd.prog E (xV (Instr.loadAt 67 b0q)) E7 fun b3w D6 =>
 opK Tryd.prog E (xCall x1 [b3w]) D6 fun b3x D9 =>
 opK Tryd.prog E (xV (Op.unary .not b3x)) D9 fun d6k J4 =>
 xcond d6k
 (opK Tryd.prog E (xV (Instr.loadAt 67 b0q)) J4 fun d6l K8 =>
 opK Tryd.prog E (xV (Instr.indexAt 22 x0 x5)) K8 fun d6m K3 =>
 opK Tryd.prog E (xU (Instr.storeAt 67 d6m d6l)) K3 fun _z_41 M6 =>
 opK Tryd.prog E (xBin .add 3 (.tmp 34) (.const (Value.int .i64 1)) x5 (Value.int .i64 1)) M6 fun b3y L4 =>
 j3 [b3y] L4)
 (j3 [x5] J4))
 (j1 [x5] t8)
def c3g (x0 x1 : Value) (w : World) (R : Value → World → Prop) (E : Pan) : Prop :=
 opK Tryd.prog E (xCall (Value.func (.func 121) #[] #[]) [x0, x1]) w fun a4X w_2 =>
 opK Tryd.prog E (xBin .eql 3 (.tmp 11) (.const (Value.int .i64 (-1))) a4X (Value.int .i64 (-1))) w_2 fun b7K w_4 =>
 xcond b7K
 (R x0 w_4)
 (xcut (fun b3Q q9 => b6a x0 (nth b3Q 0) q9 R E) fun j1 =>
 opK Tryd.prog E (xBin .add 3 (.tmp 14) (.const (Value.int .i64 1)) a4X (Value.int .i64 1)) w_4 fun a5M o7 =>
 xloop [5, 6] [a4X, a5M] o7 fun τ_45 S3 next2 =>
 b6b x0 x1 (τ_45 5) (τ_45 6) S3 next2 j1 R E)
noncomputable def d6n : Code := Tryd.f112.body.getD .skip
def d6o : Hint := (.seq .none (.seq .none (.seq (.seq .none (.cond (.seq .none .none) .none)) (.cut [5] (.seq .none (.block (.loop [5, 6] (.seq (.seq .none (.cond .none .none)) (.cut [5] (.block (.seq .none (.seq .none (.cond (.seq .none .none) .none)))) .none))))) (.seq .none (.seq .none .none))))))
theorem c7c (x0 x1 : Value) (w : World) (R : Value → World → Prop) (E : Pan) : c3g x0 x1 w R E = callX Tryd.prog [.tmp 4] d6n d6o [x0, x1] w R E := by kernel_rfl
theorem c7d {x0 x1 : Value} {w : World} {R : Value → World → Prop} {E : Pan} (h : c3g x0 x1 w R E) : Cv Tryd.prog 112 #[x0, x1] w R E := by
 refine g5 (args := [x0, x1]) (c := d6n) (h := d6o) (rs := [.tmp 4]) Tryd.func112 (by kernel_rfl) (by kernel_rfl) (Nat.le_of_ble_eq_true (by kernel_rfl)) (by kernel_rfl) (by kernel_rfl) (by kernel_rfl) ?_
 rw [← c7c]
 exact h
def c3h (x0 x1 : Value) (w : World) (R : Value → World → Prop) (E : Pan) : Prop :=
 opK Tryd.prog E (xV (Instr.box 67 x0)) w fun a4J w_2 =>
 dX w_2 fun w_3 =>
 qL Tryd.prog w_3 (blk a4J) (xV (Instr.loadAt 67 a4J)) fun e0Z =>
 qL Tryd.prog w_3 (blk x1) (xV (Instr.loadAt 3 x1)) fun a5n =>
 opK Tryd.prog E (xCall (Value.func (.func 103) #[] #[]) [e0Z]) w_3 fun a7Q w_7 =>
 keepX [(blk x1)] w_3 w_7 (qP Tryd.prog (xBin .neq 3 (.tmp 5) (.tmp 6) a7Q a5n) fun c2Z =>
 R c2Z w_7)
noncomputable def d6p : Code := Tryd.f113.body.getD .skip
def d6q : Hint := (.seq .none (.seq (.reg [(0, 16, 4), (1, 32, 16), (0, 64, 2), (6, 128, 96), (15, 8, 128)] [4, 4, 1, 5, 5] (.load 0 (.load 2 (.step 1 (.early 3 (.early 4 .done)))))) .none))
theorem c7e (x0 x1 : Value) (w : World) (R : Value → World → Prop) (E : Pan) : c3h x0 x1 w R E = callX Tryd.prog [.tmp 3] d6p d6q [x0, x1] w R E := by kernel_rfl
theorem c7f {x0 x1 : Value} {w : World} {R : Value → World → Prop} {E : Pan} (h : c3h x0 x1 w R E) : Cv Tryd.prog 113 #[x0, x1] w R E := by
 refine g5 (args := [x0, x1]) (c := d6p) (h := d6q) (rs := [.tmp 3]) Tryd.func113 (by kernel_rfl) (by kernel_rfl) (Nat.le_of_ble_eq_true (by kernel_rfl)) (by kernel_rfl) (by kernel_rfl) (by kernel_rfl) ?_
 rw [← c7e]
 exact h
def b6c (w : World) (R : Value → World → Prop) (_E : Pan) : Prop :=
 ∀ _τ : Fr, (R (Value.int .i64 (-1)) w)
def b6d (x0 x1 x7 x8 : Value) (w : World) (next2 : List Value → World → Prop) (j1 : List Value → World → Prop) (R : Value → World → Prop) (E : Pan) : Prop :=
 opK Tryd.prog E (xBin .lss 3 (.tmp 8) (.tmp 7) x8 x7) w fun b3T w_6 =>
 xcond b3T
 (opK Tryd.prog E (xV (Instr.indexAt 22 x0 x8)) w_6 fun b6H w_8 =>
 opK Tryd.prog E (xV (Instr.loadAt 67 b6H)) w_8 fun b6I l9 =>
 opK Tryd.prog E (xCall x1 [b6I]) l9 fun a0H q9 =>
 xcond a0H
 (R x8 q9)
 (opK Tryd.prog E (xBin .add 3 (.tmp 8) (.const (Value.int .i64 1)) x8 (Value.int .i64 1)) q9 fun a4b o7 =>
 next2 [a4b] o7))
 (j1 [] w_6)
def c3i (x0 x1 : Value) (w : World) (R : Value → World → Prop) (E : Pan) : Prop :=
 xcut (fun _ w_2 => b6c w_2 R E) fun j1 =>
 opK Tryd.prog E (xBuiltin .len #[22] 3 [false] [x0]) w fun a6m w_4 =>
 xloop [8] [(Value.int .i64 0)] w_4 fun τ_15 r7 next2 =>
 b6d x0 x1 a6m (τ_15 8) r7 next2 j1 R E
noncomputable def d6r : Code := Tryd.f121.body.getD .skip
def d6s : Hint := (.seq .none (.cut [] (.seq .none (.block (.loop [8] (.seq .none (.seq (.cond .none .none) (.seq (.block (.seq .none (.seq .none (.cond (.seq .none .none) .none)))) .none)))))) (.seq .none .none)))
theorem c7g (x0 x1 : Value) (w : World) (R : Value → World → Prop) (E : Pan) : c3i x0 x1 w R E = callX Tryd.prog [.tmp 4] d6r d6s [x0, x1] w R E := by kernel_rfl
theorem c7h {x0 x1 : Value} {w : World} {R : Value → World → Prop} {E : Pan} (h : c3i x0 x1 w R E) : Cv Tryd.prog 121 #[x0, x1] w R E := by
 refine g5 (args := [x0, x1]) (c := d6r) (h := d6s) (rs := [.tmp 4]) Tryd.func121 (by kernel_rfl) (by kernel_rfl) (Nat.le_of_ble_eq_true (by kernel_rfl)) (by kernel_rfl) (by kernel_rfl) (by kernel_rfl) ?_
 rw [← c7g]
 exact h
end Go.Proofs.YthldnpmfelniiaaDoor
