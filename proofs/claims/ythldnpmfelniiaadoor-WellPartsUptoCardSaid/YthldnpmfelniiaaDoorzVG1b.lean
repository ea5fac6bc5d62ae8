/- The second reading of some of the program's functions, printed by gen2.py off the code; each is held against the code by the kernel. -/
import Derived.Test.YthldnpmfelniiaaDoorProg
import Derived.Test.YthldnpmfelniiaaDoorzVK0
import Derived.KernelRfl
namespace Go.Proofs.YthldnpmfelniiaaDoor
open Go.RowKit
set_option maxRecDepth 100000
def b1A (x5 : Value) (w : World) (R : Value → World → Prop) (_E : Pan) : Prop :=
 ∀ _τ : Fr, (R x5 w)
def b5S (x1 x5 x8 x9 x10 : Value) (w : World) (next2 : List Value → World → Prop) (j1 : List Value → World → Prop) (_R : Value → World → Prop) (E : Pan) : Prop :=
 opK Tryd.prog E (xBin .lss 3 (.tmp 10) (.tmp 9) x10 x9) w fun a2Z w_6 =>
 xcond a2Z
 (opK Tryd.prog E (xV (Instr.indexAt 31 x8 x10)) w_6 fun a0t w_8 =>
 opK Tryd.prog E (xV (Instr.loadAt 33 a0t)) w_8 fun Y6 l9 =>
 opK Tryd.prog E (xV (Instr.alloc 33 true (.tuple #[]))) l9 fun a0Y q9 =>
 opK Tryd.prog E (xU (Instr.storeAt 33 a0Y Y6)) q9 fun _z_13 o7 =>
 opK Tryd.prog E (xV (Instr.loadAt 33 a0Y)) o7 fun a0C r7 =>
 opK Tryd.prog E (xCall x1 [a0C]) r7 fun a0D t8 =>
 opK Tryd.prog E (xV (Instr.buildSlice 97 1 #[(0, a0D)])) t8 fun a0E u0 =>
 opK Tryd.prog E (xBuiltin .append #[97, 97] 97 [false, false] [x5, a0E]) u0 fun a0F v6 =>
 opK Tryd.prog E (xBin .add 3 (.tmp 10) (.const (Value.int .i64 1)) x10 (Value.int .i64 1)) v6 fun a0G v7 =>
 next2 [a0F, a0G] v7)
 (j1 [x5] w_6)
def b6U (x0 x1 : Value) (w : World) (R : Value → World → Prop) (E : Pan) : Prop :=
 xcut (fun l_1 w_2 => b1A (nth l_1 0) w_2 R E) fun j1 =>
 opK Tryd.prog E (xBuiltin .len #[31] 3 [false] [x0]) w fun a2C w_4 =>
 xloop [5, 10] [(Value.slice none 0 0), (Value.int .i64 0)] w_4 fun τ_25 B1 next2 =>
 b5S x1 (τ_25 5) x0 a2C (τ_25 10) B1 next2 j1 R E
noncomputable def d1p : Code := Tryd.f154.body.getD .skip
def d1q : Hint := (.seq .none (.seq .none (.cut [5] (.seq .none (.block (.loop [5, 10] (.seq .none (.seq (.cond .none .none) (.seq (.block (.seq .none .none)) .none)))))) (.seq .none .none))))
theorem c5O (x0 x1 : Value) (w : World) (R : Value → World → Prop) (E : Pan) : b6U x0 x1 w R E = callX Tryd.prog [.tmp 4] d1p d1q [x0, x1] w R E := by kernel_rfl
theorem c5P {x0 x1 : Value} {w : World} {R : Value → World → Prop} {E : Pan} (h : b6U x0 x1 w R E) : Cv Tryd.prog 154 #[x0, x1] w R E := by
 refine g5 (args := [x0, x1]) (c := d1p) (h := d1q) (rs := [.tmp 4]) Tryd.func154 (by kernel_rfl) (by kernel_rfl) (Nat.le_of_ble_eq_true (by kernel_rfl)) (by kernel_rfl) (by kernel_rfl) (by kernel_rfl) ?_
 rw [← c5O]
 exact h
def b6V (x0 : Value) (w : World) (R : Value → World → Prop) (E : Pan) : Prop :=
 opK Tryd.prog E (xV (Instr.box 33 x0)) w fun o9 w_2 =>
 opK Tryd.prog E (xV (Instr.loadAt 33 o9)) w_2 fun T7 w_4 =>
 opK Tryd.prog E (xV (Instr.build 106 #[(0, T7)])) w_4 fun V8 w_6 =>
 opK Tryd.prog E (xV (Instr.makeInterface 106 V8)) w_6 fun a1C w_8 =>
 R a1C w_8
noncomputable def d1r : Code := Tryd.f155.body.getD .skip
def d1s : Hint := (.seq .none (.seq .none .none))
theorem c5Q (x0 : Value) (w : World) (R : Value → World → Prop) (E : Pan) : b6V x0 w R E = callX Tryd.prog [.tmp 2] d1r d1s [x0] w R E := by kernel_rfl
theorem c5R {x0 : Value} {w : World} {R : Value → World → Prop} {E : Pan} (h : b6V x0 w R E) : Cv Tryd.prog 155 #[x0] w R E := by
 refine g5 (args := [x0]) (c := d1r) (h := d1s) (rs := [.tmp 2]) Tryd.func155 (by kernel_rfl) (by kernel_rfl) (Nat.le_of_ble_eq_true (by kernel_rfl)) (by kernel_rfl) (by kernel_rfl) (by kernel_rfl) ?_
 rw [← c5Q]
 exact h
def b6W (x0 : Value) (w : World) (R : Value → World → Prop) (E : Pan) : Prop :=
 opK Tryd.prog E (xV (Instr.box 175 x0)) w fun o9 w_2 =>
 opK Tryd.prog E (xV (Instr.fieldAt 175 o9 0)) w_2 fun T7 w_4 =>
 opK Tryd.prog E (xV (Instr.fieldAt 67 T7 1)) w_4 fun V8 w_6 =>
 opK Tryd.prog E (xV (Instr.loadAt 3 V8)) w_6 fun a1C w_8 =>
 opK Tryd.prog E (xBin .geq 3 (.tmp 5) (.const (Value.int .i64 0)) a1C (Value.int .i64 0)) w_8 fun a6l l9 =>
 opK Tryd.prog E (gsem (asB a6l) true (xV (Instr.fieldAt 175 o9 0))) l9 fun b0f q9 =>
 opK Tryd.prog E (gsem (asB a6l) true (xV (Instr.fieldAt 67 b0f 1))) q9 fun b0w o7 =>
 opK Tryd.prog E (gsem (asB a6l) true (xV (Instr.loadAt 3 b0w))) o7 fun b3Y r7 =>
 opK Tryd.prog E (gsem (asB a6l) true (xBin .leq 3 (.tmp 10) (.const (Value.int .i64 2147483647)) b3Y (Value.int .i64 2147483647))) r7 fun b3Z t8 =>
 opK Tryd.prog E (xPick a6l b3Z (Value.bool false)) t8 fun b4a u0 =>
 R b4a u0
noncomputable def d1t : Code := Tryd.f156.body.getD .skip
def d1u : Hint := (.seq .none (.seq .none .none))
theorem c5S (x0 : Value) (w : World) (R : Value → World → Prop) (E : Pan) : b6W x0 w R E = callX Tryd.prog [.tmp 2] d1t d1u [x0] w R E := by kernel_rfl
theorem c5T {x0 : Value} {w : World} {R : Value → World → Prop} {E : Pan} (h : b6W x0 w R E) : Cv Tryd.prog 156 #[x0] w R E := by
 refine g5 (args := [x0]) (c := d1t) (h := d1u) (rs := [.tmp 2]) Tryd.func156 (by kernel_rfl) (by kernel_rfl) (Nat.le_of_ble_eq_true (by kernel_rfl)) (by kernel_rfl) (by kernel_rfl) (by kernel_rfl) ?_
 rw [← c5S]
 exact h
def b6X (x0 : Value) (w : World) (R : Value → World → Prop) (E : Pan) : Prop :=
 opK Tryd.prog E (xV (Instr.box 175 x0)) w fun _t1_1 w_2 =>
 R (Value.slice none 0 0) w_2
noncomputable def d1v : Code := Tryd.f157.body.getD .skip
def d1w : Hint := (.seq .none (.seq .none .none))
theorem c5U (x0 : Value) (w : World) (R : Value → World → Prop) (E : Pan) : b6X x0 w R E = callX Tryd.prog [.tmp 2] d1v d1w [x0] w R E := by kernel_rfl
theorem c5V {x0 : Value} {w : World} {R : Value → World → Prop} {E : Pan} (h : b6X x0 w R E) : Cv Tryd.prog 157 #[x0] w R E := by
 refine g5 (args := [x0]) (c := d1v) (h := d1w) (rs := [.tmp 2]) Tryd.func157 (by kernel_rfl) (by kernel_rfl) (Nat.le_of_ble_eq_true (by kernel_rfl)) (by kernel_rfl) (by kernel_rfl) (by kernel_rfl) ?_
 rw [← c5U]
 exact h
def b1B (x4 x5 x35 x83 : Value) (w : World) (R : Value → World → Prop) (E : Pan) : Prop :=
 ∀ _τ : Fr, (xcond x83
 (opK Tryd.prog E (gsem (asB x5) true (xV (Instr.loadAt 213 x4))) w fun c5W d7a =>
 opK Tryd.prog E (gsem (asB x5) true (xV (Instr.build 213 #[(0, (Value.int .i64 0)), (1, (Value.int .i64 1))]))) d7a fun c5X d7b =>
 opK Tryd.prog E (gsem (asB x5) true (xBin .eql 213 (.tmp 88) (.tmp 89) c5W c5X)) d7b fun c5Y d7c =>
 opK Tryd.prog E (xPick x5 c5Y (Value.bool false)) d7c fun c5Z d7d =>
 R c5Z d7d)
 (opK Tryd.prog E (xBin .eql 3 (.tmp 35) (.const (Value.int .i64 7)) x35 (Value.int .i64 7)) w fun c6a c3U =>
 xcond c6a
 (opK Tryd.prog E (gsem (asB x5) true (xV (Instr.loadAt 213 x4))) c3U fun c6b d7e =>
 opK Tryd.prog E (gsem (asB x5) true (xV (Instr.build 213 #[]))) d7e fun c6c d7f =>
 opK Tryd.prog E (gsem (asB x5) true (xBin .eql 213 (.tmp 96) (.tmp 97) c6b c6c)) d7f fun c6d d7g =>
 opK Tryd.prog E (xPick x5 c6d (Value.bool false)) d7g fun c6e d7h =>
 R c6e d7h)
 (R (Value.bool false) c3U)))
def b6Y (x0 : Value) (w : World) (R : Value → World → Prop) (E : Pan) : Prop :=
 opK Tryd.prog E (xV (Instr.box 177 x0)) w fun o9 w_2 =>
 opK Tryd.prog E (xV (Instr.fieldAt 177 o9 0)) w_2 fun c1n w_4 =>
 opK Tryd.prog E (xV (Instr.fieldAt 88 c1n 4)) w_4 fun b3V w_6 =>
 opK Tryd.prog E (xV (Instr.loadAt 23 b3V)) w_6 fun a4g w_8 =>
 opK Tryd.prog E (xBuiltin .len #[23] 3 [false] [a4g]) w_8 fun a7y l9 =>
 opK Tryd.prog E (xV (Instr.fieldAt 177 o9 0)) l9 fun d1x q9 =>
 opK Tryd.prog E (xV (Instr.fieldAt 88 d1x 5)) q9 fun d1y o7 =>
 opK Tryd.prog E (xV (Instr.loadAt 23 d1y)) o7 fun a0j r7 =>
 opK Tryd.prog E (xBuiltin .len #[23] 3 [false] [a0j]) r7 fun d1z t8 =>
 opK Tryd.prog E (xBin .add 3 (.tmp 9) (.tmp 13) a7y d1z) t8 fun d1A u0 =>
 opK Tryd.prog E (xBin .gtr 3 (.tmp 14) (.const (Value.int .i64 0)) d1A (Value.int .i64 0)) u0 fun b4f v6 =>
 opK Tryd.prog E (xV (Instr.fieldAt 177 o9 0)) v6 fun d1B v7 =>
 opK Tryd.prog E (xV (Instr.fieldAt 88 d1B 2)) v7 fun d1C B1 =>
 opK Tryd.prog E (xV (Instr.loadAt 28 d1C)) B1 fun d1D D8 =>
 opK Tryd.prog E (xBuiltin .len #[28] 3 [false] [d1D]) D8 fun d1E E7 =>
 opK Tryd.prog E (xV (Instr.fieldAt 177 o9 0)) E7 fun d1F D6 =>
 opK Tryd.prog E (xV (Instr.fieldAt 88 d1F 3)) D6 fun d1G D9 =>
 opK Tryd.prog E (xV (Instr.loadAt 31 d1G)) D9 fun d1H J4 =>
 opK Tryd.prog E (xBuiltin .len #[31] 3 [false] [d1H]) J4 fun d1I K8 =>
 opK Tryd.prog E (xV (Instr.build 213 #[(0, d1E), (1, d1I)])) K8 fun d1J K3 =>
 opK Tryd.prog E (xV (Instr.alloc 213 true (.tuple #[]))) K3 fun a8k M6 =>
 opK Tryd.prog E (xU (Instr.storeAt 213 a8k d1J)) M6 fun _z_43 L4 =>
 opK Tryd.prog E (xV (Instr.fieldAt 177 o9 0)) L4 fun d1K S3 =>
 opK Tryd.prog E (xV (Instr.fieldAt 88 d1K 1)) S3 fun d1L R0 =>
 opK Tryd.prog E (xV (Instr.loadAt 9 d1L)) R0 fun d1M M7 =>
 opK Tryd.prog E (xBin .eql 9 (.tmp 27) (.const (Value.string ⟨#[]⟩)) d1M (Value.string ⟨#[]⟩)) M7 fun a7C R1 =>
 opK Tryd.prog E (gsem (asB a7C) true (xV (Op.unary .not (gval (asB a7C) true b4f)))) R1 fun d1N X4 =>
 opK Tryd.prog E (xPick a7C d1N (Value.bool false)) X4 fun d1O V9 =>
 opK Tryd.prog E (xV (Instr.fieldAt 177 o9 0)) V9 fun d1P X5 =>
 opK Tryd.prog E (xV (Instr.fieldAt 88 d1P 0)) X5 fun d1Q Y4 =>
 opK Tryd.prog E (xV (Instr.loadAt 3 d1Q)) Y4 fun a4h a0l =>
 opK Tryd.prog E (xBin .eql 3 (.tmp 35) (.const (Value.int .i64 1)) a4h (Value.int .i64 1)) a0l fun d1R a0A =>
 xcond d1R
 (opK Tryd.prog E (xV (Op.unary .not b4f)) a0A fun b0y Y5 =>
 opK Tryd.prog E (gsem (asB b0y) true (xV (Instr.loadAt 213 a8k))) Y5 fun d1S a1D =>
 opK Tryd.prog E (gsem (asB b0y) true (xV (Instr.build 213 #[(0, (Value.int .i64 1)), (1, (Value.int .i64 0))]))) a1D fun d1T a0m =>
 opK Tryd.prog E (gsem (asB b0y) true (xBin .eql 213 (.tmp 41) (.tmp 42) d1S d1T)) a0m fun d1U a0o =>
 opK Tryd.prog E (xPick b0y d1U (Value.bool false)) a0o fun d1V a1i =>
 R d1V a1i)
 (opK Tryd.prog E (xBin .eql 3 (.tmp 35) (.const (Value.int .i64 2)) a4h (Value.int .i64 2)) a0A fun d1W a0B =>
 xcond d1W
 (opK Tryd.prog E (xV (Op.unary .not b4f)) a0B fun b0z a2f =>
 opK Tryd.prog E (gsem (asB b0z) true (xV (Instr.loadAt 213 a8k))) a2f fun d1X a2B =>
 opK Tryd.prog E (gsem (asB b0z) true (xV (Instr.build 213 #[(0, (Value.int .i64 2)), (1, (Value.int .i64 0))]))) a2B fun d1Y a3s =>
 opK Tryd.prog E (gsem (asB b0z) true (xBin .eql 213 (.tmp 50) (.tmp 51) d1X d1Y)) a3s fun d1Z a5o =>
 opK Tryd.prog E (xPick b0z d1Z (Value.bool false)) a5o fun d2a a5p =>
 R d2a a5p)
 (opK Tryd.prog E (xBin .eql 3 (.tmp 35) (.const (Value.int .i64 3)) a4h (Value.int .i64 3)) a0B fun d2b a3t =>
 xcond d2b
 (opK Tryd.prog E (xV (Instr.fieldAt 177 o9 0)) a3t fun d2c a8X =>
 opK Tryd.prog E (xV (Instr.fieldAt 88 d2c 1)) a8X fun d2d a8Y =>
 opK Tryd.prog E (xV (Instr.loadAt 9 d2d)) a8Y fun d2e a7s =>
 opK Tryd.prog E (xBin .eql 9 (.tmp 58) (.const (Value.string ⟨#[]⟩)) d2e (Value.string ⟨#[]⟩)) a7s fun b0A a6n =>
 opK Tryd.prog E (gsem (asB b0A) true (xV (Instr.loadAt 213 a8k))) a6n fun d2f a8Z =>
 opK Tryd.prog E (gsem (asB b0A) true (xV (Instr.build 213 #[(0, (Value.int .i64 0)), (1, (Value.int .i64 1))]))) a8Z fun d2g a4Y =>
 opK Tryd.prog E (gsem (asB b0A) true (xBin .eql 213 (.tmp 61) (.tmp 62) d2f d2g)) a4Y fun c6f a3G =>
 opK Tryd.prog E (xPick b0A c6f (Value.bool false)) a3G fun c6g a8h =>
 R c6g a8h)
 (opK Tryd.prog E (xBin .eql 3 (.tmp 35) (.const (Value.int .i64 4)) a4h (Value.int .i64 4)) a3t fun c6h a3H =>
 xcond c6h
 (opK Tryd.prog E (xV (Instr.fieldAt 177 o9 0)) a3H fun c6i b6u =>
 opK Tryd.prog E (xV (Instr.fieldAt 88 c6i 1)) b6u fun c6j b6v =>
 opK Tryd.prog E (xV (Instr.loadAt 9 c6j)) b6v fun c6k b6w =>
 opK Tryd.prog E (xBin .eql 9 (.tmp 69) (.const (Value.string ⟨#[]⟩)) c6k (Value.string ⟨#[]⟩)) b6w fun a3R a4Z =>
 opK Tryd.prog E (gsem (asB a3R) true (xV (Instr.fieldAt 177 o9 0))) a4Z fun c6l a6o =>
 opK Tryd.prog E (gsem (asB a3R) true (xV (Instr.fieldAt 88 c6l 5))) a6o fun c6m b6x =>
 opK Tryd.prog E (gsem (asB a3R) true (xV (Instr.loadAt 23 c6m))) b6x fun c6n a8i =>
 opK Tryd.prog E (gsem (asB a3R) true (xBuiltin .len #[23] 3 [false] [c6n])) a8i fun c6o b6Z =>
 opK Tryd.prog E (gsem (asB a3R) true (xBin .eql 3 (.tmp 75) (.const (Value.int .i64 0)) c6o (Value.int .i64 0))) b6Z fun c6p d7i =>
 opK Tryd.prog E (xPick a3R c6p (Value.bool false)) d7i fun a8l d7j =>
 opK Tryd.prog E (gsem (asB a8l) true (xV (Instr.loadAt 213 a8k))) d7j fun c6q d7k =>
 opK Tryd.prog E (gsem (asB a8l) true (xV (Instr.build 213 #[(0, (Value.int .i64 0)), (1, (Value.int .i64 1))]))) d7k fun c6r d7l =>
 opK Tryd.prog E (gsem (asB a8l) true (xBin .eql 213 (.tmp 79) (.tmp 80) c6q c6r)) d7l fun c6s d7m =>
 opK Tryd.prog E (xPick a8l c6s (Value.bool false)) d7m fun c6t d7n =>
 R c6t d7n)
 (xcut (fun d7o d7p => b1B a8k d1O a4h (nth d7o 0) d7p R E) fun j1 =>
 opK Tryd.prog E (xBin .eql 3 (.tmp 35) (.const (Value.int .i64 5)) a4h (Value.int .i64 5)) a3H fun b5T c3V =>
 xcond b5T
 (j1 [b5T] c3V)
 (opK Tryd.prog E (xBin .eql 3 (.tmp 35) (.const (Value.int .i64 6)) a4h (Value.int .i64 6)) c3V fun c6u d7q =>
 j1 [c6u] d7q)))))
noncomputable def d2h : Code := Tryd.f158.body.getD .skip
def d2i : Hint := (.seq .none (.seq .none (.seq .none (.seq .none (.seq (.seq .none (.block (.seq .none (.cond (.seq .none .none) (.seq .none (.cond (.seq .none .none) (.seq .none (.cond (.seq .none .none) (.seq .none (.cond (.seq .none .none) (.cut [83] (.seq .none (.cond .none .none)) (.cond (.seq .none .none) (.seq .none (.cond (.seq .none .none) .none)))))))))))))) (.seq .none .none))))))
theorem c6v (x0 : Value) (w : World) (R : Value → World → Prop) (E : Pan) : b6Y x0 w R E = callX Tryd.prog [.tmp 2] d2h d2i [x0] w R E := by kernel_rfl
theorem c6w {x0 : Value} {w : World} {R : Value → World → Prop} {E : Pan} (h : b6Y x0 w R E) : Cv Tryd.prog 158 #[x0] w R E := by
 refine g5 (args := [x0]) (c := d2h) (h := d2i) (rs := [.tmp 2]) Tryd.func158 (by kernel_rfl) (by kernel_rfl) (Nat.le_of_ble_eq_true (by kernel_rfl)) (by kernel_rfl) (by kernel_rfl) (by kernel_rfl) ?_
 rw [← c6v]
 exact h
def b7a (x0 : Value) (w : World) (R : Value → World → Prop) (E : Pan) : Prop :=
 opK Tryd.prog E (xV (Instr.box 177 x0)) w fun o9 w_2 =>
 dX w_2 fun w_3 =>
 qP Tryd.prog (xV (Instr.fieldAt 177 o9 0)) fun b1g =>
 qP Tryd.prog (xV (Instr.fieldAt 88 b1g 3)) fun V8 =>
 qP Tryd.prog (xV (Instr.fieldAt 177 o9 0)) fun c1p =>
 qP Tryd.prog (xV (Instr.fieldAt 88 c1p 2)) fun a4g =>
 qP Tryd.prog (xV (Instr.fieldAt 177 o9 0)) fun d7r =>
 qP Tryd.prog (xV (Instr.fieldAt 88 d7r 4)) fun b2J =>
 qP Tryd.prog (xV (Instr.fieldAt 177 o9 0)) fun d2j =>
 qP Tryd.prog (xV (Instr.fieldAt 88 d2j 5)) fun a0H =>
 qL Tryd.prog w_3 (blk V8) (xV (Instr.loadAt 31 V8)) fun d7s =>
 qL Tryd.prog w_3 (blk a4g) (xV (Instr.loadAt 28 a4g)) fun b0w =>
 qL Tryd.prog w_3 (blk b2J) (xV (Instr.loadAt 23 b2J)) fun d2k =>
 qL Tryd.prog w_3 (blk a0H) (xV (Instr.loadAt 23 a0H)) fun a4e =>
 opK Tryd.prog E (xCall (Value.func (.func 154) #[] #[]) [d7s, (Value.func (.func 155) #[] #[])]) w_3 fun d7t a1h =>
 keepX [(blk a0H), (blk b2J), (blk a4g)] w_3 a1h (opK Tryd.prog E (xCall (Value.func (.func 150) #[] #[]) [b0w, (Value.func (.func 151) #[] #[])]) a1h fun d2l a2A =>
 keepX [(blk a0H), (blk b2J)] a1h a2A (opK Tryd.prog E (xCall (Value.func (.func 97) #[] #[]) [d2k, (Value.func (.func 98) #[] #[])]) a2A fun d2m a4c =>
 keepX [(blk a0H)] a2A a4c (opK Tryd.prog E (xCall (Value.func (.func 97) #[] #[]) [a4e, (Value.func (.func 98) #[] #[])]) a4c fun b4g b1C =>
 keepX [] a4c b1C (opK Tryd.prog E (xV (Instr.buildSlice 172 4 #[(0, d7t), (1, d2l), (2, d2m), (3, b4g)])) b1C fun d2n b1i =>
 keepX [] b1C b1i (opK Tryd.prog E (xCall (Value.func (.func 94) #[] #[]) [d2n]) b1i fun d2o a3r =>
 keepX [] b1i a3r (R d2o a3r))))))
noncomputable def d2p : Code := Tryd.f159.body.getD .skip
def d2q : Hint := (.seq .none (.seq (.reg [(0, 8, 2), (1, 16, 8), (2, 32, 16), (4, 64, 32), (0, 128, 2), (16, 256, 128), (32, 512, 256), (72, 1024, 512), (0, 2048, 2), (256, 4096, 2048), (512, 8192, 4096), (1152, 16384, 8192), (0, 32768, 2), (4096, 65536, 32768), (8192, 131072, 65536), (18432, 262144, 131072), (34952, 524288, 279616), (98304, 1048576, 524288), (262143, 4, 1048576)] [17476, 17476, 17472, 17472, 17476, 17476, 17412, 17408, 17476, 17476, 16452, 16384, 17476, 17476, 1092, 0, 0, 0, 17476] (.early 0 (.early 1 (.early 4 (.early 5 (.early 8 (.early 9 (.early 12 (.early 13 (.load 2 (.load 6 (.load 10 (.load 14 (.step 3 (.step 7 (.step 11 (.step 15 (.step 16 (.step 17 (.early 18 .done)))))))))))))))))))) .none))
theorem c6x (x0 : Value) (w : World) (R : Value → World → Prop) (E : Pan) : b7a x0 w R E = callX Tryd.prog [.tmp 2] d2p d2q [x0] w R E := by kernel_rfl
theorem c6y {x0 : Value} {w : World} {R : Value → World → Prop} {E : Pan} (h : b7a x0 w R E) : Cv Tryd.prog 159 #[x0] w R E := by
 refine g5 (args := [x0]) (c := d2p) (h := d2q) (rs := [.tmp 2]) Tryd.func159 (by kernel_rfl) (by kernel_rfl) (Nat.le_of_ble_eq_true (by kernel_rfl)) (by kernel_rfl) (by kernel_rfl) (by kernel_rfl) ?_
 rw [← c6x]
 exact h
end Go.Proofs.YthldnpmfelniiaaDoor
