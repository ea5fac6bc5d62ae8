/- The second reading of some of the program's functions, printed by gen2.py off the code; each is held against the code by the kernel. -/
import Derived.Test.YthldnpmfelniiaaDoorProg
import Derived.Test.YthldnpmfelniiaaDoorzTK0
import Derived.KernelRfl
namespace Go.Proofs.YthldnpmfelniiaaDoor
open Go.RowKit
set_option maxRecDepth 100000
def b0H (x5 : Value) (w : World) (R : Value → World → Prop) (_E : Pan) : Prop :=
 ∀ _τ : Fr, (R x5 w)
def b4G (x1 x5 x8 x9 x10 : Value) (w : World) (next2 : List Value → World → Prop) (j1 : List Value → World → Prop) (_R : Value → World → Prop) (E : Pan) : Prop :=
 opK Tryd.prog E (xBin .lss 3 (.tmp 10) (.tmp 9) x10 x9) w fun a5D w_6 =>
 xcond a5D
 (opK Tryd.prog E (xV (Instr.indexAt 31 x8 x10)) w_6 fun a1B w_8 =>
 opK Tryd.prog E (xV (Instr.loadAt 33 a1B)) w_8 fun a0S o2 =>
 opK Tryd.prog E (xV (Instr.alloc 33 true (.tuple #[]))) o2 fun a0z u7 =>
 opK Tryd.prog E (xU (Instr.storeAt 33 a0z a0S)) u7 fun _z_13 r9 =>
 opK Tryd.prog E (xV (Instr.loadAt 33 a0z)) r9 fun a1C v6 =>
 opK Tryd.prog E (xCall x1 [a1C]) v6 fun a1D y9 =>
 opK Tryd.prog E (xV (Instr.buildSlice 97 1 #[(0, a1D)])) y9 fun a1E v8 =>
 opK Tryd.prog E (xBuiltin .append #[97, 97] 97 [false, false] [x5, a1E]) v8 fun a1F A5 =>
 opK Tryd.prog E (xBin .add 3 (.tmp 10) (.const (Value.int .i64 1)) x10 (Value.int .i64 1)) A5 fun a1G A6 =>
 next2 [a1F, a1G] A6)
 (j1 [x5] w_6)
def b5D (x0 x1 : Value) (w : World) (R : Value → World → Prop) (E : Pan) : Prop :=
 xcut (fun l_1 w_2 => b0H (nth l_1 0) w_2 R E) fun j1 =>
 opK Tryd.prog E (xBuiltin .len #[31] 3 [false] [x0]) w fun a1Z w_4 =>
 xloop [5, 10] [(Value.slice none 0 0), (Value.int .i64 0)] w_4 fun τ_25 B8 next2 =>
 b4G x1 (τ_25 5) x0 a1Z (τ_25 10) B8 next2 j1 R E
noncomputable def c9H : Code := Tryd.f154.body.getD .skip
def c9I : Hint := (.seq .none (.seq .none (.cut [5] (.seq .none (.block (.loop [5, 10] (.seq .none (.seq (.cond .none .none) (.seq (.block (.seq .none .none)) .none)))))) (.seq .none .none))))
theorem c4f (x0 x1 : Value) (w : World) (R : Value → World → Prop) (E : Pan) : b5D x0 x1 w R E = callX Tryd.prog [.tmp 4] c9H c9I [x0, x1] w R E := by kernel_rfl
theorem c4g {x0 x1 : Value} {w : World} {R : Value → World → Prop} {E : Pan} (h : b5D x0 x1 w R E) : Cv Tryd.prog 154 #[x0, x1] w R E := by
 refine g8 (args := [x0, x1]) (c := c9H) (h := c9I) (rs := [.tmp 4]) Tryd.func154 (by kernel_rfl) (by kernel_rfl) (Nat.le_of_ble_eq_true (by kernel_rfl)) (by kernel_rfl) (by kernel_rfl) (by kernel_rfl) ?_
 rw [← c4f]
 exact h
def b5E (x0 : Value) (w : World) (R : Value → World → Prop) (E : Pan) : Prop :=
 opK Tryd.prog E (xV (Instr.box 33 x0)) w fun p6 w_2 =>
 opK Tryd.prog E (xV (Instr.loadAt 33 p6)) w_2 fun a0V w_4 =>
 opK Tryd.prog E (xV (Instr.build 106 #[(0, a0V)])) w_4 fun U5 w_6 =>
 opK Tryd.prog E (xV (Instr.makeInterface 106 U5)) w_6 fun a0W w_8 =>
 R a0W w_8
noncomputable def c9J : Code := Tryd.f155.body.getD .skip
def c9K : Hint := (.seq .none (.seq .none .none))
theorem c4h (x0 : Value) (w : World) (R : Value → World → Prop) (E : Pan) : b5E x0 w R E = callX Tryd.prog [.tmp 2] c9J c9K [x0] w R E := by kernel_rfl
theorem c4i {x0 : Value} {w : World} {R : Value → World → Prop} {E : Pan} (h : b5E x0 w R E) : Cv Tryd.prog 155 #[x0] w R E := by
 refine g8 (args := [x0]) (c := c9J) (h := c9K) (rs := [.tmp 2]) Tryd.func155 (by kernel_rfl) (by kernel_rfl) (Nat.le_of_ble_eq_true (by kernel_rfl)) (by kernel_rfl) (by kernel_rfl) (by kernel_rfl) ?_
 rw [← c4h]
 exact h
def b5F (x0 : Value) (w : World) (R : Value → World → Prop) (E : Pan) : Prop :=
 opK Tryd.prog E (xV (Instr.box 175 x0)) w fun p6 w_2 =>
 opK Tryd.prog E (xV (Instr.fieldAt 175 p6 0)) w_2 fun a0V w_4 =>
 opK Tryd.prog E (xV (Instr.fieldAt 67 a0V 1)) w_4 fun U5 w_6 =>
 opK Tryd.prog E (xV (Instr.loadAt 3 U5)) w_6 fun a0W w_8 =>
 opK Tryd.prog E (xBin .geq 3 (.tmp 5) (.const (Value.int .i64 0)) a0W (Value.int .i64 0)) w_8 fun a5y o2 =>
 opK Tryd.prog E (gsem (asB a5y) true (xV (Instr.fieldAt 175 p6 0))) o2 fun a9o u7 =>
 opK Tryd.prog E (gsem (asB a5y) true (xV (Instr.fieldAt 67 a9o 1))) u7 fun a9D r9 =>
 opK Tryd.prog E (gsem (asB a5y) true (xV (Instr.loadAt 3 a9D))) r9 fun b2Q v6 =>
 opK Tryd.prog E (gsem (asB a5y) true (xBin .leq 3 (.tmp 10) (.const (Value.int .i64 2147483647)) b2Q (Value.int .i64 2147483647))) v6 fun b2R y9 =>
 opK Tryd.prog E (xPick a5y b2R (Value.bool false)) y9 fun b2S v8 =>
 R b2S v8
noncomputable def c9L : Code := Tryd.f156.body.getD .skip
def c9M : Hint := (.seq .none (.seq .none .none))
theorem c4j (x0 : Value) (w : World) (R : Value → World → Prop) (E : Pan) : b5F x0 w R E = callX Tryd.prog [.tmp 2] c9L c9M [x0] w R E := by kernel_rfl
theorem c4k {x0 : Value} {w : World} {R : Value → World → Prop} {E : Pan} (h : b5F x0 w R E) : Cv Tryd.prog 156 #[x0] w R E := by
 refine g8 (args := [x0]) (c := c9L) (h := c9M) (rs := [.tmp 2]) Tryd.func156 (by kernel_rfl) (by kernel_rfl) (Nat.le_of_ble_eq_true (by kernel_rfl)) (by kernel_rfl) (by kernel_rfl) (by kernel_rfl) ?_
 rw [← c4j]
 exact h
def b5G (x0 : Value) (w : World) (R : Value → World → Prop) (E : Pan) : Prop :=
 opK Tryd.prog E (xV (Instr.box 175 x0)) w fun _t1_1 w_2 =>
 R (Value.slice none 0 0) w_2
noncomputable def c9N : Code := Tryd.f157.body.getD .skip
def c9O : Hint := (.seq .none (.seq .none .none))
theorem c4l (x0 : Value) (w : World) (R : Value → World → Prop) (E : Pan) : b5G x0 w R E = callX Tryd.prog [.tmp 2] c9N c9O [x0] w R E := by kernel_rfl
theorem c4m {x0 : Value} {w : World} {R : Value → World → Prop} {E : Pan} (h : b5G x0 w R E) : Cv Tryd.prog 157 #[x0] w R E := by
 refine g8 (args := [x0]) (c := c9N) (h := c9O) (rs := [.tmp 2]) Tryd.func157 (by kernel_rfl) (by kernel_rfl) (Nat.le_of_ble_eq_true (by kernel_rfl)) (by kernel_rfl) (by kernel_rfl) (by kernel_rfl) ?_
 rw [← c4l]
 exact h
def b0I (x4 x5 x35 x83 : Value) (w : World) (R : Value → World → Prop) (E : Pan) : Prop :=
 ∀ _τ : Fr, (xcond x83
 (opK Tryd.prog E (gsem (asB x5) true (xV (Instr.loadAt 213 x4))) w fun c4n d4q =>
 opK Tryd.prog E (gsem (asB x5) true (xV (Instr.build 213 #[(0, (Value.int .i64 0)), (1, (Value.int .i64 1))]))) d4q fun c4o d4r =>
 opK Tryd.prog E (gsem (asB x5) true (xBin .eql 213 (.tmp 88) (.tmp 89) c4n c4o)) d4r fun c4p d4s =>
 opK Tryd.prog E (xPick x5 c4p (Value.bool false)) d4s fun c4q d4t =>
 R c4q d4t)
 (opK Tryd.prog E (xBin .eql 3 (.tmp 35) (.const (Value.int .i64 7)) x35 (Value.int .i64 7)) w fun c4r c2q =>
 xcond c4r
 (opK Tryd.prog E (gsem (asB x5) true (xV (Instr.loadAt 213 x4))) c2q fun c4s d4u =>
 opK Tryd.prog E (gsem (asB x5) true (xV (Instr.build 213 #[]))) d4u fun c4t d4v =>
 opK Tryd.prog E (gsem (asB x5) true (xBin .eql 213 (.tmp 96) (.tmp 97) c4s c4t)) d4v fun c4u d4w =>
 opK Tryd.prog E (xPick x5 c4u (Value.bool false)) d4w fun c4v d4x =>
 R c4v d4x)
 (R (Value.bool false) c2q)))
def b5H (x0 : Value) (w : World) (R : Value → World → Prop) (E : Pan) : Prop :=
 opK Tryd.prog E (xV (Instr.box 177 x0)) w fun p6 w_2 =>
 opK Tryd.prog E (xV (Instr.fieldAt 177 p6 0)) w_2 fun b9R w_4 =>
 opK Tryd.prog E (xV (Instr.fieldAt 88 b9R 4)) w_4 fun b9S w_6 =>
 opK Tryd.prog E (xV (Instr.loadAt 23 b9S)) w_6 fun a3B w_8 =>
 opK Tryd.prog E (xBuiltin .len #[23] 3 [false] [a3B]) w_8 fun b0D o2 =>
 opK Tryd.prog E (xV (Instr.fieldAt 177 p6 0)) o2 fun c9P u7 =>
 opK Tryd.prog E (xV (Instr.fieldAt 88 c9P 5)) u7 fun c9Q r9 =>
 opK Tryd.prog E (xV (Instr.loadAt 23 c9Q)) r9 fun a6Y v6 =>
 opK Tryd.prog E (xBuiltin .len #[23] 3 [false] [a6Y]) v6 fun c9R y9 =>
 opK Tryd.prog E (xBin .add 3 (.tmp 9) (.tmp 13) b0D c9R) y9 fun c9S v8 =>
 opK Tryd.prog E (xBin .gtr 3 (.tmp 14) (.const (Value.int .i64 0)) c9S (Value.int .i64 0)) v8 fun b2V A5 =>
 opK Tryd.prog E (xV (Instr.fieldAt 177 p6 0)) A5 fun c9T A6 =>
 opK Tryd.prog E (xV (Instr.fieldAt 88 c9T 2)) A6 fun c9U B8 =>
 opK Tryd.prog E (xV (Instr.loadAt 28 c9U)) B8 fun c9V G4 =>
 opK Tryd.prog E (xBuiltin .len #[28] 3 [false] [c9V]) G4 fun c9W J2 =>
 opK Tryd.prog E (xV (Instr.fieldAt 177 p6 0)) J2 fun c9X G1 =>
 opK Tryd.prog E (xV (Instr.fieldAt 88 c9X 3)) G1 fun c9Y J3 =>
 opK Tryd.prog E (xV (Instr.loadAt 31 c9Y)) J3 fun c9Z N7 =>
 opK Tryd.prog E (xBuiltin .len #[31] 3 [false] [c9Z]) N7 fun d0a M4 =>
 opK Tryd.prog E (xV (Instr.build 213 #[(0, c9W), (1, d0a)])) M4 fun d0b L0 =>
 opK Tryd.prog E (xV (Instr.alloc 213 true (.tuple #[]))) L0 fun a7B Q2 =>
 opK Tryd.prog E (xU (Instr.storeAt 213 a7B d0b)) Q2 fun _z_43 N8 =>
 opK Tryd.prog E (xV (Instr.fieldAt 177 p6 0)) N8 fun d0c W1 =>
 opK Tryd.prog E (xV (Instr.fieldAt 88 d0c 1)) W1 fun d0d S2 =>
 opK Tryd.prog E (xV (Instr.loadAt 9 d0d)) S2 fun d0e M5 =>
 opK Tryd.prog E (xBin .eql 9 (.tmp 27) (.const (Value.string ⟨#[]⟩)) d0e (Value.string ⟨#[]⟩)) M5 fun a6W Q0 =>
 opK Tryd.prog E (gsem (asB a6W) true (xV (Op.unary .not (gval (asB a6W) true b2V)))) Q0 fun d0f W2 =>
 opK Tryd.prog E (xPick a6W d0f (Value.bool false)) W2 fun d0g U6 =>
 opK Tryd.prog E (xV (Instr.fieldAt 177 p6 0)) U6 fun d0h W3 =>
 opK Tryd.prog E (xV (Instr.fieldAt 88 d0h 0)) W3 fun d0i X3 =>
 opK Tryd.prog E (xV (Instr.loadAt 3 d0i)) X3 fun a3C Z5 =>
 opK Tryd.prog E (xBin .eql 3 (.tmp 35) (.const (Value.int .i64 1)) a3C (Value.int .i64 1)) Z5 fun d0j Z6 =>
 xcond d0j
 (opK Tryd.prog E (xV (Op.unary .not b2V)) Z6 fun a9F X4 =>
 opK Tryd.prog E (gsem (asB a9F) true (xV (Instr.loadAt 213 a7B))) X4 fun d0k a0X =>
 opK Tryd.prog E (gsem (asB a9F) true (xV (Instr.build 213 #[(0, (Value.int .i64 1)), (1, (Value.int .i64 0))]))) a0X fun d0l Z7 =>
 opK Tryd.prog E (gsem (asB a9F) true (xBin .eql 213 (.tmp 41) (.tmp 42) d0k d0l)) Z7 fun d0m Z8 =>
 opK Tryd.prog E (xPick a9F d0m (Value.bool false)) Z8 fun d0n a0G =>
 R d0n a0G)
 (opK Tryd.prog E (xBin .eql 3 (.tmp 35) (.const (Value.int .i64 2)) a3C (Value.int .i64 2)) Z6 fun d0o a0i =>
 xcond d0o
 (opK Tryd.prog E (xV (Op.unary .not b2V)) a0i fun a9G a1A =>
 opK Tryd.prog E (gsem (asB a9G) true (xV (Instr.loadAt 213 a7B))) a1A fun d0p a1Y =>
 opK Tryd.prog E (gsem (asB a9G) true (xV (Instr.build 213 #[(0, (Value.int .i64 2)), (1, (Value.int .i64 0))]))) a1Y fun d0q a2L =>
 opK Tryd.prog E (gsem (asB a9G) true (xBin .eql 213 (.tmp 50) (.tmp 51) d0p d0q)) a2L fun d0r a4E =>
 opK Tryd.prog E (xPick a9G d0r (Value.bool false)) a4E fun d0s a4F =>
 R d0s a4F)
 (opK Tryd.prog E (xBin .eql 3 (.tmp 35) (.const (Value.int .i64 3)) a3C (Value.int .i64 3)) a0i fun d0t a2M =>
 xcond d0t
 (opK Tryd.prog E (xV (Instr.fieldAt 177 p6 0)) a2M fun d0u a8t =>
 opK Tryd.prog E (xV (Instr.fieldAt 88 d0u 1)) a8t fun d0v a8u =>
 opK Tryd.prog E (xV (Instr.loadAt 9 d0v)) a8u fun d0w a6N =>
 opK Tryd.prog E (xBin .eql 9 (.tmp 58) (.const (Value.string ⟨#[]⟩)) d0w (Value.string ⟨#[]⟩)) a6N fun a9H a5A =>
 opK Tryd.prog E (gsem (asB a9H) true (xV (Instr.loadAt 213 a7B))) a5A fun d0x a8v =>
 opK Tryd.prog E (gsem (asB a9H) true (xV (Instr.build 213 #[(0, (Value.int .i64 0)), (1, (Value.int .i64 1))]))) a8v fun d0y a4p =>
 opK Tryd.prog E (gsem (asB a9H) true (xBin .eql 213 (.tmp 61) (.tmp 62) d0x d0y)) a4p fun c4w a2Y =>
 opK Tryd.prog E (xPick a9H c4w (Value.bool false)) a2Y fun c4x a5B =>
 R c4x a5B)
 (opK Tryd.prog E (xBin .eql 3 (.tmp 35) (.const (Value.int .i64 4)) a3C (Value.int .i64 4)) a2M fun c4y a2Z =>
 xcond c4y
 (opK Tryd.prog E (xV (Instr.fieldAt 177 p6 0)) a2Z fun c4z b5f =>
 opK Tryd.prog E (xV (Instr.fieldAt 88 c4z 1)) b5f fun c4A b5g =>
 opK Tryd.prog E (xV (Instr.loadAt 9 c4A)) b5g fun c4B b5h =>
 opK Tryd.prog E (xBin .eql 9 (.tmp 69) (.const (Value.string ⟨#[]⟩)) c4B (Value.string ⟨#[]⟩)) b5h fun a3m a4q =>
 opK Tryd.prog E (gsem (asB a3m) true (xV (Instr.fieldAt 177 p6 0))) a4q fun c4C a5C =>
 opK Tryd.prog E (gsem (asB a3m) true (xV (Instr.fieldAt 88 c4C 5))) a5C fun c4D b5i =>
 opK Tryd.prog E (gsem (asB a3m) true (xV (Instr.loadAt 23 c4D))) b5i fun c4E a7z =>
 opK Tryd.prog E (gsem (asB a3m) true (xBuiltin .len #[23] 3 [false] [c4E])) a7z fun c4F b5I =>
 opK Tryd.prog E (gsem (asB a3m) true (xBin .eql 3 (.tmp 75) (.const (Value.int .i64 0)) c4F (Value.int .i64 0))) b5I fun c4G d4y =>
 opK Tryd.prog E (xPick a3m c4G (Value.bool false)) d4y fun a7C d4z =>
 opK Tryd.prog E (gsem (asB a7C) true (xV (Instr.loadAt 213 a7B))) d4z fun c4H d4A =>
 opK Tryd.prog E (gsem (asB a7C) true (xV (Instr.build 213 #[(0, (Value.int .i64 0)), (1, (Value.int .i64 1))]))) d4A fun c4I d4B =>
 opK Tryd.prog E (gsem (asB a7C) true (xBin .eql 213 (.tmp 79) (.tmp 80) c4H c4I)) d4B fun c4J d4C =>
 opK Tryd.prog E (xPick a7C c4J (Value.bool false)) d4C fun c4K d4D =>
 R c4K d4D)
 (xcut (fun d4E d4F => b0I a7B d0g a3C (nth d4E 0) d4F R E) fun j1 =>
 opK Tryd.prog E (xBin .eql 3 (.tmp 35) (.const (Value.int .i64 5)) a3C (Value.int .i64 5)) a2Z fun b4H c2r =>
 xcond b4H
 (j1 [b4H] c2r)
 (opK Tryd.prog E (xBin .eql 3 (.tmp 35) (.const (Value.int .i64 6)) a3C (Value.int .i64 6)) c2r fun c4L d4G =>
 j1 [c4L] d4G)))))
noncomputable def d0z : Code := Tryd.f158.body.getD .skip
def d0A : Hint := (.seq .none (.seq .none (.seq .none (.seq .none (.seq (.seq .none (.block (.seq .none (.cond (.seq .none .none) (.seq .none (.cond (.seq .none .none) (.seq .none (.cond (.seq .none .none) (.seq .none (.cond (.seq .none .none) (.cut [83] (.seq .none (.cond .none .none)) (.cond (.seq .none .none) (.seq .none (.cond (.seq .none .none) .none)))))))))))))) (.seq .none .none))))))
theorem c4M (x0 : Value) (w : World) (R : Value → World → Prop) (E : Pan) : b5H x0 w R E = callX Tryd.prog [.tmp 2] d0z d0A [x0] w R E := by kernel_rfl
theorem c4N {x0 : Value} {w : World} {R : Value → World → Prop} {E : Pan} (h : b5H x0 w R E) : Cv Tryd.prog 158 #[x0] w R E := by
 refine g8 (args := [x0]) (c := d0z) (h := d0A) (rs := [.tmp 2]) Tryd.func158 (by kernel_rfl) (by kernel_rfl) (Nat.le_of_ble_eq_true (by kernel_rfl)) (by kernel_rfl) (by kernel_rfl) (by kernel_rfl) ?_
 rw [← c4M]
 exact h
def b5J (x0 : Value) (w : World) (R : Value → World → Prop) (E : Pan) : Prop :=
 opK Tryd.prog E (xV (Instr.box 177 x0)) w fun p6 w_2 =>
 dX w_2 fun w_3 =>
 qP Tryd.prog (xV (Instr.fieldAt 177 p6 0)) fun b0n =>
 qP Tryd.prog (xV (Instr.fieldAt 88 b0n 3)) fun U5 =>
 qP Tryd.prog (xV (Instr.fieldAt 177 p6 0)) fun b9T =>
 qP Tryd.prog (xV (Instr.fieldAt 88 b9T 2)) fun a3B =>
 qP Tryd.prog (xV (Instr.fieldAt 177 p6 0)) fun d4H =>
 qP Tryd.prog (xV (Instr.fieldAt 88 d4H 4)) fun b1S =>
 qP Tryd.prog (xV (Instr.fieldAt 177 p6 0)) fun d0B =>
 qP Tryd.prog (xV (Instr.fieldAt 88 d0B 5)) fun a1I =>
 qL Tryd.prog w_3 (blk U5) (xV (Instr.loadAt 31 U5)) fun d4I =>
 qL Tryd.prog w_3 (blk a3B) (xV (Instr.loadAt 28 a3B)) fun a9D =>
 qL Tryd.prog w_3 (blk b1S) (xV (Instr.loadAt 23 b1S)) fun d0C =>
 qL Tryd.prog w_3 (blk a1I) (xV (Instr.loadAt 23 a1I)) fun a6L =>
 opK Tryd.prog E (xCall (Value.func (.func 154) #[] #[]) [d4I, (Value.func (.func 155) #[] #[])]) w_3 fun d4J a0F =>
 keepX [(blk a1I), (blk b1S), (blk a3B)] w_3 a0F (opK Tryd.prog E (xCall (Value.func (.func 150) #[] #[]) [a9D, (Value.func (.func 151) #[] #[])]) a0F fun d0D a5z =>
 keepX [(blk a1I), (blk b1S)] a0F a5z (opK Tryd.prog E (xCall (Value.func (.func 97) #[] #[]) [d0C, (Value.func (.func 98) #[] #[])]) a5z fun d0E a6K =>
 keepX [(blk a1I)] a5z a6K (opK Tryd.prog E (xCall (Value.func (.func 97) #[] #[]) [a6L, (Value.func (.func 98) #[] #[])]) a6K fun d0F b0J =>
 keepX [] a6K b0J (opK Tryd.prog E (xV (Instr.buildSlice 172 4 #[(0, d4J), (1, d0D), (2, d0E), (3, d0F)])) b0J fun d0G b2u =>
 keepX [] b0J b2u (opK Tryd.prog E (xCall (Value.func (.func 94) #[] #[]) [d0G]) b2u fun d0H a3y =>
 keepX [] b2u a3y (R d0H a3y))))))
noncomputable def d0I : Code := Tryd.f159.body.getD .skip
def d0J : Hint := (.seq .none (.seq (.reg [(0, 8, 2), (1, 16, 8), (2, 32, 16), (4, 64, 32), (0, 128, 2), (16, 256, 128), (32, 512, 256), (72, 1024, 512), (0, 2048, 2), (256, 4096, 2048), (512, 8192, 4096), (1152, 16384, 8192), (0, 32768, 2), (4096, 65536, 32768), (8192, 131072, 65536), (18432, 262144, 131072), (34952, 524288, 279616), (98304, 1048576, 524288), (262143, 4, 1048576)] [17476, 17476, 17472, 17472, 17476, 17476, 17412, 17408, 17476, 17476, 16452, 16384, 17476, 17476, 1092, 0, 0, 0, 17476] (.early 0 (.early 1 (.early 4 (.early 5 (.early 8 (.early 9 (.early 12 (.early 13 (.load 2 (.load 6 (.load 10 (.load 14 (.step 3 (.step 7 (.step 11 (.step 15 (.step 16 (.step 17 (.early 18 .done)))))))))))))))))))) .none))
theorem c4O (x0 : Value) (w : World) (R : Value → World → Prop) (E : Pan) : b5J x0 w R E = callX Tryd.prog [.tmp 2] d0I d0J [x0] w R E := by kernel_rfl
theorem c4P {x0 : Value} {w : World} {R : Value → World → Prop} {E : Pan} (h : b5J x0 w R E) : Cv Tryd.prog 159 #[x0] w R E := by
 refine g8 (args := [x0]) (c := d0I) (h := d0J) (rs := [.tmp 2]) Tryd.func159 (by kernel_rfl) (by kernel_rfl) (Nat.le_of_ble_eq_true (by kernel_rfl)) (by kernel_rfl) (by kernel_rfl) (by kernel_rfl) ?_
 rw [← c4O]
 exact h
end Go.Proofs.YthldnpmfelniiaaDoor
