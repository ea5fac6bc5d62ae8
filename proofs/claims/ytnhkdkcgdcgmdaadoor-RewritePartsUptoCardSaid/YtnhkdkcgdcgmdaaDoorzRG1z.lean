/- The second reading of some of the program's functions, printed by gen2.py off the code; each is held against the code by the kernel. -/
import Derived.Test.YtnhkdkcgdcgmdaaDoorProg
import Derived.Test.YtnhkdkcgdcgmdaaDoorzRK0
import Derived.KernelRfl
namespace Go.Proofs.YtnhkdkcgdcgmdaaDoor
open Go.RowKit
set_option maxRecDepth 100000
def F39 (x0 : Value) (w : World) (R : Value → World → Prop) (E : Pan) : Prop :=
 opK Tryd.prog E (xV (Instr.box 24 x0)) w fun o0 w_2 =>
 opK Tryd.prog E (xV (Instr.build 130 #[])) w_2 fun a9M w_4 =>
 opK Tryd.prog E (xV (Instr.alloc 130 true (.tuple #[]))) w_4 fun a6u w_6 =>
 opK Tryd.prog E (xU (Instr.storeAt 130 a6u a9M)) w_6 fun _z_7 w_8 =>
 opK Tryd.prog E (xV (Instr.loadAt 24 o0)) w_8 fun a6t l0 =>
 opK Tryd.prog E (xCall (Value.func (.func 66) #[] #[]) [a6u, a6t, (Value.int .i64 1)]) l0 fun _t7_11 m6 =>
 opK Tryd.prog E (xV (Instr.fieldAt 130 a6u 2)) m6 fun b1g l8 =>
 opK Tryd.prog E (xV (Instr.loadAt 3 b1g)) l8 fun b6k o5 =>
 opK Tryd.prog E (xBin .neq 3 (.tmp 9) (.const (Value.int .i64 0)) b6k (Value.int .i64 0)) o5 fun b1Z p5 =>
 xcond b1Z
 (opK Tryd.prog E (xV (Instr.fieldAt 130 a6u 2)) p5 fun c9V o7 =>
 opK Tryd.prog E (xV (Instr.loadAt 3 c9V)) o7 fun c9W r9 =>
 R c9W r9)
 (opK Tryd.prog E (xV (Instr.build 133 #[(0, (Value.bool true)), (1, (Value.bool true))])) p5 fun c9X q8 =>
 opK Tryd.prog E (xV (Instr.alloc 133 true (.tuple #[]))) q8 fun b7d t7 =>
 opK Tryd.prog E (xU (Instr.storeAt 133 b7d c9X)) t7 fun _z_27 w4 =>
 opK Tryd.prog E (xV (Instr.loadAt 24 o0)) w4 fun c9Y A8 =>
 opK Tryd.prog E (xCall (Value.func (.func 67) #[] #[]) [b7d, c9Y]) A8 fun _t15_31 w5 =>
 opK Tryd.prog E (xV (Instr.loadAt 133 b7d)) w5 fun c9Z z2 =>
 opK Tryd.prog E (xCall (Value.func (.func 68) #[] #[]) [c9Z]) z2 fun d0a F1 =>
 R d0a F1)
noncomputable def c39 : Code := Tryd.f39.body.getD .skip
def h39 : Hint := (.seq .none (.seq .none (.seq .none (.seq (.seq .none (.cond (.seq .none .none) .none)) (.seq .none (.seq .none (.seq .none .none)))))))
theorem g0f (x0 : Value) (w : World) (R : Value → World → Prop) (E : Pan) : F39 x0 w R E = callX Tryd.prog [.tmp 2] c39 h39 [x0] w R E := by kernel_rfl
theorem g0g {x0 : Value} {w : World} {R : Value → World → Prop} {E : Pan} (h : F39 x0 w R E) : Cv Tryd.prog 39 #[x0] w R E := by
 refine g7 (args := [x0]) (c := c39) (h := h39) (rs := [.tmp 2]) Tryd.func39 (by kernel_rfl) (by kernel_rfl) (Nat.le_of_ble_eq_true (by kernel_rfl)) (by kernel_rfl) (by kernel_rfl) (by kernel_rfl) ?_
 rw [← g0f]
 exact h
def F41 (x0 : Value) (w : World) (R : Value → World → Prop) (E : Pan) : Prop :=
 opK Tryd.prog E (xV (Instr.box 27 x0)) w fun o0 w_2 =>
 opK Tryd.prog E (xV (Instr.loadAt 27 o0)) w_2 fun Z0 w_4 =>
 opK Tryd.prog E (xV (Instr.build 138 #[(0, Z0)])) w_4 fun a4z w_6 =>
 opK Tryd.prog E (xV (Instr.makeInterface 138 a4z)) w_6 fun a7U w_8 =>
 opK Tryd.prog E (xV (Instr.buildSlice 124 1 #[(0, a7U)])) w_8 fun a6t l0 =>
 opK Tryd.prog E (xCall (Value.func (.func 60) #[] #[]) [a6t]) l0 fun a2k m6 =>
 opK Tryd.prog E (xNil a2k) m6 fun b1g l8 =>
 opK Tryd.prog E (xV (Instr.fieldAt 106 b1g 2)) l8 fun b6k o5 =>
 opK Tryd.prog E (xV (Instr.loadAt 29 b6k)) o5 fun b1Z p5 =>
 R b1Z p5
noncomputable def c41 : Code := Tryd.f41.body.getD .skip
def h41 : Hint := (.seq .none (.seq .none .none))
theorem g0h (x0 : Value) (w : World) (R : Value → World → Prop) (E : Pan) : F41 x0 w R E = callX Tryd.prog [.tmp 2] c41 h41 [x0] w R E := by kernel_rfl
theorem g0i {x0 : Value} {w : World} {R : Value → World → Prop} {E : Pan} (h : F41 x0 w R E) : Cv Tryd.prog 41 #[x0] w R E := by
 refine g7 (args := [x0]) (c := c41) (h := h41) (rs := [.tmp 2]) Tryd.func41 (by kernel_rfl) (by kernel_rfl) (Nat.le_of_ble_eq_true (by kernel_rfl)) (by kernel_rfl) (by kernel_rfl) (by kernel_rfl) ?_
 rw [← g0h]
 exact h
def F43 (x0 : Value) (w : World) (R : Value → World → Prop) (E : Pan) : Prop :=
 opK Tryd.prog E (xV (Instr.box 27 x0)) w fun o0 w_2 =>
 opK Tryd.prog E (xV (Instr.build 130 #[])) w_2 fun a9M w_4 =>
 opK Tryd.prog E (xV (Instr.alloc 130 true (.tuple #[]))) w_4 fun a6u w_6 =>
 opK Tryd.prog E (xU (Instr.storeAt 130 a6u a9M)) w_6 fun _z_7 w_8 =>
 opK Tryd.prog E (xV (Instr.loadAt 27 o0)) w_8 fun a6t l0 =>
 opK Tryd.prog E (xCall (Value.func (.func 77) #[] #[]) [a6u, a6t, (Value.int .i64 1)]) l0 fun _t7_11 m6 =>
 opK Tryd.prog E (xV (Instr.fieldAt 130 a6u 2)) m6 fun b1g l8 =>
 opK Tryd.prog E (xV (Instr.loadAt 3 b1g)) l8 fun b6k o5 =>
 opK Tryd.prog E (xBin .neq 3 (.tmp 9) (.const (Value.int .i64 0)) b6k (Value.int .i64 0)) o5 fun b1Z p5 =>
 xcond b1Z
 (opK Tryd.prog E (xV (Instr.fieldAt 130 a6u 2)) p5 fun c9V o7 =>
 opK Tryd.prog E (xV (Instr.loadAt 3 c9V)) o7 fun c9W r9 =>
 R c9W r9)
 (opK Tryd.prog E (xV (Instr.build 133 #[(0, (Value.bool true)), (1, (Value.bool true))])) p5 fun c9X q8 =>
 opK Tryd.prog E (xV (Instr.alloc 133 true (.tuple #[]))) q8 fun b7d t7 =>
 opK Tryd.prog E (xU (Instr.storeAt 133 b7d c9X)) t7 fun _z_27 w4 =>
 opK Tryd.prog E (xV (Instr.loadAt 27 o0)) w4 fun c9Y A8 =>
 opK Tryd.prog E (xCall (Value.func (.func 78) #[] #[]) [b7d, c9Y]) A8 fun _t15_31 w5 =>
 opK Tryd.prog E (xV (Instr.loadAt 133 b7d)) w5 fun c9Z z2 =>
 opK Tryd.prog E (xCall (Value.func (.func 68) #[] #[]) [c9Z]) z2 fun d0a F1 =>
 R d0a F1)
noncomputable def c43 : Code := Tryd.f43.body.getD .skip
def h43 : Hint := (.seq .none (.seq .none (.seq .none (.seq (.seq .none (.cond (.seq .none .none) .none)) (.seq .none (.seq .none (.seq .none .none)))))))
theorem g0j (x0 : Value) (w : World) (R : Value → World → Prop) (E : Pan) : F43 x0 w R E = callX Tryd.prog [.tmp 2] c43 h43 [x0] w R E := by kernel_rfl
theorem g0k {x0 : Value} {w : World} {R : Value → World → Prop} {E : Pan} (h : F43 x0 w R E) : Cv Tryd.prog 43 #[x0] w R E := by
 refine g7 (args := [x0]) (c := c43) (h := h43) (rs := [.tmp 2]) Tryd.func43 (by kernel_rfl) (by kernel_rfl) (Nat.le_of_ble_eq_true (by kernel_rfl)) (by kernel_rfl) (by kernel_rfl) (by kernel_rfl) ?_
 rw [← g0j]
 exact h
def e0b (x0 x3 x5 : Value) (w : World) (next2 : List Value → World → Prop) (R : Value → World → Prop) (E : Pan) : Prop :=
 opK Tryd.prog E (xV (Instr.fieldAt 24 x3 3)) w fun d0b U1 =>
 opK Tryd.prog E (xV (Instr.loadAt 22 d0b)) U1 fun c3s a0r =>
 opK Tryd.prog E (xBuiltin .len #[22] 3 [false] [c3s]) a0r fun d0c a0s =>
 opK Tryd.prog E (xBin .lss 3 (.tmp 65) (.tmp 68) x5 d0c) a0s fun a8D Z3 =>
 opK Tryd.prog E (gsem (asB a8D) true (xNil (gval (asB a8D) true x0))) Z3 fun c7U W3 =>
 opK Tryd.prog E (gsem (asB a8D) true (xV (Instr.fieldAt 133 c7U 0))) W3 fun d0d X3 =>
 opK Tryd.prog E (gsem (asB a8D) true (xV (Instr.loadAt 4 d0d))) X3 fun d0e Z1 =>
 opK Tryd.prog E (xPick a8D d0e (Value.bool false)) Z1 fun d0f a0q =>
 xcond d0f
 (opK Tryd.prog E (xV (Instr.fieldAt 24 x3 3)) a0q fun g0l a0A =>
 opK Tryd.prog E (xV (Instr.loadAt 22 g0l)) a0A fun g0m Z2 =>
 opK Tryd.prog E (xV (Instr.indexAt 22 g0m x5)) Z2 fun g0n a2g =>
 opK Tryd.prog E (xV (Instr.loadAt 24 g0n)) a2g fun g0o a2H =>
 opK Tryd.prog E (xCall (Value.func (.func 67) #[] #[]) [x0, g0o]) a2H fun _t84_93 a1B =>
 opK Tryd.prog E (xBin .add 3 (.tmp 76) (.const (Value.int .i64 1)) x5 (Value.int .i64 1)) a1B fun g0p a3l =>
 next2 [g0p] a3l)
 (R (Value.tuple #[]) a0q)
def d0g (x0 x3 x4 : Value) (w : World) (R : Value → World → Prop) (E : Pan) : Prop :=
 ∀ _τ : Fr, (opK Tryd.prog E (xV (Instr.fieldAt 24 x3 2)) w fun g9l w_4 =>
 opK Tryd.prog E (xV (Instr.loadAt 9 g9l)) w_4 fun d3F w_6 =>
 opK Tryd.prog E (xV (Instr.fieldAt 24 x3 0)) w_6 fun g9m w_8 =>
 opK Tryd.prog E (xV (Instr.loadAt 3 g9m)) w_8 fun g9n l0 =>
 opK Tryd.prog E (xBin .eql 3 (.tmp 28) (.const (Value.int .i64 2)) g9n (Value.int .i64 2)) l0 fun c3t m6 =>
 opK Tryd.prog E (gsem (asB c3t) false (xV (Instr.fieldAt 24 x3 0))) m6 fun g0q l8 =>
 opK Tryd.prog E (gsem (asB c3t) false (xV (Instr.loadAt 3 g0q))) l8 fun g0r o5 =>
 opK Tryd.prog E (gsem (asB c3t) false (xBin .eql 3 (.tmp 32) (.const (Value.int .i64 4)) g0r (Value.int .i64 4))) o5 fun b8X p5 =>
 opK Tryd.prog E (xPick c3t (Value.bool true) b8X) p5 fun d0h o7 =>
 opK Tryd.prog E (xCall (Value.func (.func 103) #[] #[]) [x0, d3F, d0h]) o7 fun _t35_21 r9 =>
 opK Tryd.prog E (xNil x0) r9 fun g0s q8 =>
 opK Tryd.prog E (xV (Instr.fieldAt 133 g0s 0)) q8 fun g0t t7 =>
 opK Tryd.prog E (xV (Instr.loadAt 4 g0t)) t7 fun b5F w4 =>
 opK Tryd.prog E (gsem (asB b5F) true (xV (Instr.fieldAt 24 x3 3))) w4 fun g0u A8 =>
 opK Tryd.prog E (gsem (asB b5F) true (xV (Instr.loadAt 22 g0u))) A8 fun d0i w5 =>
 opK Tryd.prog E (gsem (asB b5F) true (xBuiltin .len #[22] 3 [false] [d0i])) w5 fun d0j z2 =>
 opK Tryd.prog E (gsem (asB b5F) true (xBin .eql 3 (.tmp 44) (.tmp 45) d0j (gval (asB b5F) true x4))) z2 fun g0v F1 =>
 opK Tryd.prog E (xPick b5F g0v (Value.bool false)) F1 fun a4o D3 =>
 opK Tryd.prog E (gsem (asB a4o) true (xV (Instr.fieldAt 24 x3 1))) D3 fun g0w F5 =>
 opK Tryd.prog E (gsem (asB a4o) true (xV (Instr.loadAt 2 g0w))) F5 fun g0x D4 =>
 opK Tryd.prog E (gsem (asB a4o) true (xBin .eql 2 (.tmp 50) (.const (Value.int .i64 0)) g0x (Value.int .i64 0))) D4 fun a8Z D9 =>
 opK Tryd.prog E (gsem (asB (gval (asB a4o) true a8Z)) false (xV (Instr.fieldAt 24 x3 0))) D9 fun g0y M5 =>
 opK Tryd.prog E (gsem (asB (gval (asB a4o) true a8Z)) false (xV (Instr.loadAt 3 g0y))) M5 fun g0z K5 =>
 opK Tryd.prog E (gsem (asB (gval (asB a4o) true a8Z)) false (xBin .eql 3 (.tmp 54) (.const (Value.int .i64 1)) g0z (Value.int .i64 1))) K5 fun c3u J6 =>
 opK Tryd.prog E (gsem (asB (gval (asB (gval (asB a4o) true a8Z)) false c3u)) true (xV (Instr.fieldAt 24 x3 1))) J6 fun g0A L3 =>
 opK Tryd.prog E (gsem (asB (gval (asB (gval (asB a4o) true a8Z)) false c3u)) true (xV (Instr.loadAt 2 g0A))) L3 fun g0B I7 =>
 opK Tryd.prog E (gsem (asB (gval (asB (gval (asB a4o) true a8Z)) false c3u)) true (xBin .gtr 2 (.tmp 58) (.const (Value.int .i64 0)) g0B (Value.int .i64 0))) I7 fun g0C M6 =>
 opK Tryd.prog E (gsem (asB (gval (asB a4o) true a8Z)) false (xPick (gval (asB (gval (asB a4o) true a8Z)) false c3u) g0C (Value.bool false))) M6 fun g0D J5 =>
 opK Tryd.prog E (gsem (asB a4o) true (xPick (gval (asB a4o) true a8Z) (Value.bool true) g0D)) J5 fun g0E M2 =>
 opK Tryd.prog E (xPick a4o g0E (Value.bool false)) M2 fun g0F L2 =>
 opK Tryd.prog E (xNil x0) L2 fun d0k M3 =>
 opK Tryd.prog E (xV (Instr.fieldAt 133 d0k 0)) M3 fun d0l U0 =>
 opK Tryd.prog E (xU (Instr.storeAt 4 d0l g0F)) U0 fun _z_67 U7 =>
 xloop [5] [(Value.int .i64 0)] U7 fun τ_97 a3m next2 =>
 e0b x0 x3 (τ_97 5) a3m next2 R E)
def d0m (x0 _x3 x4 x18 : Value) (w : World) (j1 : List Value → World → Prop) (_R : Value → World → Prop) (E : Pan) : Prop :=
 ∀ _τ : Fr, (xcond x18
 (j1 [(Value.int .i64 2)] w)
 (opK Tryd.prog E (xNil x0) w fun g0G a5h =>
 opK Tryd.prog E (xV (Instr.fieldAt 133 g0G 0)) a5h fun e9O a6Y =>
 opK Tryd.prog E (xU (Instr.storeAt 4 e9O (Value.bool false))) a6Y fun _z_109 a5e =>
 j1 [x4] a5e))
def d0n (x0 x3 x4 x7 x15 : Value) (w : World) (j1 : List Value → World → Prop) (R : Value → World → Prop) (E : Pan) : Prop :=
 ∀ _τ : Fr, (xcond x15
 (j1 [(Value.int .i64 1)] w)
 (xcut (fun g9o a7Q => d0m x0 x3 x4 (nth g9o 0) a7Q j1 R E) fun j5 =>
 opK Tryd.prog E (xBin .eql 3 (.tmp 7) (.const (Value.int .i64 6)) x7 (Value.int .i64 6)) w fun d2F a7b =>
 xcond d2F
 (j5 [d2F] a7b)
 (opK Tryd.prog E (xBin .eql 3 (.tmp 7) (.const (Value.int .i64 7)) x7 (Value.int .i64 7)) a7b fun d2G a7c =>
 xcond d2G
 (j5 [d2G] a7c)
 (opK Tryd.prog E (xBin .eql 3 (.tmp 7) (.const (Value.int .i64 8)) x7 (Value.int .i64 8)) a7c fun d2H a7d =>
 xcond d2H
 (j5 [d2H] a7d)
 (opK Tryd.prog E (xBin .eql 3 (.tmp 7) (.const (Value.int .i64 9)) x7 (Value.int .i64 9)) a7d fun d2I a5X =>
 xcond d2I
 (j5 [d2I] a5X)
 (opK Tryd.prog E (xBin .eql 3 (.tmp 7) (.const (Value.int .i64 10)) x7 (Value.int .i64 10)) a5X fun e9P a4f =>
 j5 [e9P] a4f))))))
def d0o (x0 x3 x4 x7 x11 : Value) (w : World) (j1 : List Value → World → Prop) (R : Value → World → Prop) (E : Pan) : Prop :=
 ∀ _τ : Fr, (xcond x11
 (j1 [x4] w)
 (xcut (fun g9p a4F => d0n x0 x3 x4 x7 (nth g9p 0) a4F j1 R E) fun j4 =>
 opK Tryd.prog E (xBin .eql 3 (.tmp 7) (.const (Value.int .i64 4)) x7 (Value.int .i64 4)) w fun d2J a4G =>
 xcond d2J
 (j4 [d2J] a4G)
 (opK Tryd.prog E (xBin .eql 3 (.tmp 7) (.const (Value.int .i64 5)) x7 (Value.int .i64 5)) a4G fun e9Q a5i =>
 j4 [e9Q] a5i)))
def F67 (x0 x1 : Value) (w : World) (R : Value → World → Prop) (E : Pan) : Prop :=
 opK Tryd.prog E (xV (Instr.box 24 x1)) w fun b2Q w_2 =>
 xcut (fun e1n a1T => d0g x0 b2Q (nth e1n 0) a1T R E) fun j1 =>
 opK Tryd.prog E (xV (Instr.fieldAt 24 b2Q 0)) w_2 fun g0H a1U =>
 opK Tryd.prog E (xV (Instr.loadAt 3 g0H)) a1U fun c3v a4e =>
 xcut (fun g9q a3F => d0o x0 b2Q (Value.int .i64 0) c3v (nth g9q 0) a3F j1 R E) fun j3 =>
 opK Tryd.prog E (xBin .eql 3 (.tmp 7) (.const (Value.int .i64 1)) c3v (Value.int .i64 1)) a4e fun d2K a4g =>
 xcond d2K
 (j3 [d2K] a4g)
 (opK Tryd.prog E (xBin .eql 3 (.tmp 7) (.const (Value.int .i64 2)) c3v (Value.int .i64 2)) a4g fun d2L a4h =>
 xcond d2L
 (j3 [d2L] a4h)
 (opK Tryd.prog E (xBin .eql 3 (.tmp 7) (.const (Value.int .i64 3)) c3v (Value.int .i64 3)) a4h fun e9R a3D =>
 j3 [e9R] a3D))
noncomputable def c67 : Code := Tryd.f67.body.getD .skip
def h67 : Hint := (.seq .none (.seq .none (.cut [4] (.seq .none (.block (.cut [11] (.seq .none (.cond .none (.seq .none (.cond .none .none)))) (.cond .none (.cut [15] (.seq .none (.cond .none .none)) (.cond .none (.cut [18] (.seq .none (.cond .none (.seq .none (.cond .none (.seq .none (.cond .none (.seq .none (.cond .none .none)))))))) (.cond .none .none)))))))) (.seq .none (.seq .none (.seq .none (.block (.loop [5] (.seq (.seq .none (.cond .none .none)) (.seq (.block .none) .none))))))))))
theorem g0I (x0 x1 : Value) (w : World) (R : Value → World → Prop) (E : Pan) : F67 x0 x1 w R E = callX Tryd.prog [] c67 h67 [x0, x1] w R E := by kernel_rfl
theorem g0J {x0 x1 : Value} {w : World} {R : Value → World → Prop} {E : Pan} (h : F67 x0 x1 w R E) : Cv Tryd.prog 67 #[x0, x1] w R E := by
 refine g7 (args := [x0, x1]) (c := c67) (h := h67) (rs := []) Tryd.func67 (by kernel_rfl) (by kernel_rfl) (Nat.le_of_ble_eq_true (by kernel_rfl)) (by kernel_rfl) (by kernel_rfl) (by kernel_rfl) ?_
 rw [← g0I]
 exact h
def F68 (x0 : Value) (w : World) (R : Value → World → Prop) (E : Pan) : Prop :=
 opK Tryd.prog E (xV (Instr.box 133 x0)) w fun o0 w_2 =>
 opK Tryd.prog E (xV (Instr.fieldAt 133 o0 0)) w_2 fun Z0 w_4 =>
 opK Tryd.prog E (xV (Instr.loadAt 4 Z0)) w_4 fun a4z w_6 =>
 opK Tryd.prog E (xV (Op.unary .not a4z)) w_6 fun a7U w_8 =>
 xcond a7U
 (R (Value.int .i64 30) w_8)
 (opK Tryd.prog E (xV (Instr.fieldAt 133 o0 1)) w_8 fun a6t l0 =>
 opK Tryd.prog E (xV (Instr.loadAt 4 a6t)) l0 fun a2k m6 =>
 opK Tryd.prog E (xV (Op.unary .not a2k)) m6 fun b1g l8 =>
 xcond b1g
 (R (Value.int .i64 31) l8)
 (R (Value.int .i64 0) l8))
noncomputable def c68 : Code := Tryd.f68.body.getD .skip
def h68 : Hint := (.seq .none (.seq (.seq .none (.cond (.seq .none .none) .none)) (.seq (.seq .none (.cond (.seq .none .none) .none)) (.seq .none .none))))
theorem g0K (x0 : Value) (w : World) (R : Value → World → Prop) (E : Pan) : F68 x0 w R E = callX Tryd.prog [.tmp 2] c68 h68 [x0] w R E := by kernel_rfl
theorem g0L {x0 : Value} {w : World} {R : Value → World → Prop} {E : Pan} (h : F68 x0 w R E) : Cv Tryd.prog 68 #[x0] w R E := by
 refine g7 (args := [x0]) (c := c68) (h := h68) (rs := [.tmp 2]) Tryd.func68 (by kernel_rfl) (by kernel_rfl) (Nat.le_of_ble_eq_true (by kernel_rfl)) (by kernel_rfl) (by kernel_rfl) (by kernel_rfl) ?_
 rw [← g0K]
 exact h
def e0c (x0 x3 x8 : Value) (w : World) (next4 : List Value → World → Prop) (R : Value → World → Prop) (E : Pan) : Prop :=
 opK Tryd.prog E (xV (Instr.fieldAt 27 x3 3)) w fun g0M D9 =>
 opK Tryd.prog E (xV (Instr.loadAt 25 g0M)) D9 fun g0N M5 =>
 opK Tryd.prog E (xBuiltin .len #[25] 3 [false] [g0N]) M5 fun g0O K5 =>
 opK Tryd.prog E (xBin .lss 3 (.tmp 82) (.tmp 85) x8 g0O) K5 fun b8Y J6 =>
 opK Tryd.prog E (gsem (asB b8Y) true (xNil (gval (asB b8Y) true x0))) J6 fun g0P L3 =>
 opK Tryd.prog E (gsem (asB b8Y) true (xV (Instr.fieldAt 133 g0P 0))) L3 fun g0Q I7 =>
 opK Tryd.prog E (gsem (asB b8Y) true (xV (Instr.loadAt 4 g0Q))) I7 fun g0R M6 =>
 opK Tryd.prog E (xPick b8Y g0R (Value.bool false)) M6 fun g0S J5 =>
 xcond g0S
 (opK Tryd.prog E (xV (Instr.fieldAt 27 x3 3)) J5 fun g0T M2 =>
 opK Tryd.prog E (xV (Instr.loadAt 25 g0T)) M2 fun g0U L2 =>
 opK Tryd.prog E (xV (Instr.indexAt 25 g0U x8)) L2 fun g0V M3 =>
 opK Tryd.prog E (xV (Instr.loadAt 27 g0V)) M3 fun e9S U0 =>
 opK Tryd.prog E (xCall (Value.func (.func 78) #[] #[]) [x0, e9S]) U0 fun _t101_67 U7 =>
 opK Tryd.prog E (xBin .add 3 (.tmp 93) (.const (Value.int .i64 1)) x8 (Value.int .i64 1)) U7 fun g0W U1 =>
 next4 [g0W] U1)
 (R (Value.tuple #[]) J5)
def d0p (x0 x3 : Value) (w : World) (R : Value → World → Prop) (E : Pan) : Prop :=
 ∀ _τ : Fr, (xloop [8] [(Value.int .i64 0)] w fun τ_71 a0r next4 =>
 e0c x0 x3 (τ_71 8) a0r next4 R E)
def e0d (x0 x3 x7 : Value) (w : World) (next5 : List Value → World → Prop) (j3 : List Value → World → Prop) (_R : Value → World → Prop) (E : Pan) : Prop :=
 opK Tryd.prog E (xV (Instr.fieldAt 27 x3 2)) w fun g0X Z3 =>
 opK Tryd.prog E (xV (Instr.loadAt 22 g0X)) Z3 fun g0Y W3 =>
 opK Tryd.prog E (xBuiltin .len #[22] 3 [false] [g0Y]) W3 fun g0Z X3 =>
 opK Tryd.prog E (xBin .lss 3 (.tmp 62) (.tmp 65) x7 g0Z) X3 fun b8Z Z1 =>
 opK Tryd.prog E (gsem (asB b8Z) true (xNil (gval (asB b8Z) true x0))) Z1 fun g1a a0q =>
 opK Tryd.prog E (gsem (asB b8Z) true (xV (Instr.fieldAt 133 g1a 0))) a0q fun g1b a0A =>
 opK Tryd.prog E (gsem (asB b8Z) true (xV (Instr.loadAt 4 g1b))) a0A fun g1c Z2 =>
 opK Tryd.prog E (xPick b8Z g1c (Value.bool false)) Z2 fun g1d a2g =>
 xcond g1d
 (opK Tryd.prog E (xV (Instr.fieldAt 27 x3 2)) a2g fun g1e a2H =>
 opK Tryd.prog E (xV (Instr.loadAt 22 g1e)) a2H fun g1f a1B =>
 opK Tryd.prog E (xV (Instr.indexAt 22 g1f x7)) a1B fun g1g a3l =>
 opK Tryd.prog E (xV (Instr.loadAt 24 g1g)) a3l fun g1h a3m =>
 opK Tryd.prog E (xCall (Value.func (.func 67) #[] #[]) [x0, g1h]) a3m fun _t81_99 a1T =>
 opK Tryd.prog E (xBin .add 3 (.tmp 73) (.const (Value.int .i64 1)) x7 (Value.int .i64 1)) a1T fun e9T a1U =>
 next5 [e9T] a1U)
 (j3 [] a2g)
def d0q (x0 x3 x4 x5 x6 : Value) (w : World) (R : Value → World → Prop) (E : Pan) : Prop :=
 ∀ _τ : Fr, (opK Tryd.prog E (xNil x0) w fun g9r l0 =>
 opK Tryd.prog E (xV (Instr.fieldAt 133 g9r 0)) l0 fun g1i m6 =>
 opK Tryd.prog E (xV (Instr.loadAt 4 g1i)) m6 fun e0e l8 =>
 opK Tryd.prog E (xPick e0e (gval (asB e0e) true x6) (Value.bool false)) l8 fun b5G o5 =>
 opK Tryd.prog E (gsem (asB b5G) true (xV (Instr.fieldAt 27 x3 2))) o5 fun g1j p5 =>
 opK Tryd.prog E (gsem (asB b5G) true (xV (Instr.loadAt 22 g1j))) p5 fun g1k o7 =>
 opK Tryd.prog E (gsem (asB b5G) true (xBuiltin .len #[22] 3 [false] [g1k])) o7 fun d0r r9 =>
 opK Tryd.prog E (gsem (asB b5G) true (xBin .eql 3 (.tmp 49) (.tmp 50) d0r (gval (asB b5G) true x4))) r9 fun g1l q8 =>
 opK Tryd.prog E (xPick b5G g1l (Value.bool false)) q8 fun b5H t7 =>
 opK Tryd.prog E (gsem (asB b5H) true (xV (Instr.fieldAt 27 x3 3))) t7 fun g1m w4 =>
 opK Tryd.prog E (gsem (asB b5H) true (xV (Instr.loadAt 25 g1m))) w4 fun g1n A8 =>
 opK Tryd.prog E (gsem (asB b5H) true (xBuiltin .len #[25] 3 [false] [g1n])) A8 fun g1o w5 =>
 opK Tryd.prog E (gsem (asB b5H) true (xBin .eql 3 (.tmp 56) (.tmp 57) g1o (gval (asB b5H) true x5))) w5 fun g1p z2 =>
 opK Tryd.prog E (xPick b5H g1p (Value.bool false)) z2 fun g1q F1 =>
 opK Tryd.prog E (xNil x0) F1 fun g1r D3 =>
 opK Tryd.prog E (xV (Instr.fieldAt 133 g1r 0)) D3 fun g1s F5 =>
 opK Tryd.prog E (xU (Instr.storeAt 4 g1s g1q)) F5 fun _z_41 D4 =>
 xcut (fun _ a0s => d0p x0 x3 a0s R E) fun j3 =>
 xloop [7] [(Value.int .i64 0)] D4 fun τ_103 a4e next5 =>
 e0d x0 x3 (τ_103 7) a4e next5 j3 R E)
def d0s (x0 x3 x4 x5 : Value) (w : World) (R : Value → World → Prop) (E : Pan) : Prop :=
 ∀ _τ : Fr, (opK Tryd.prog E (xV (Instr.fieldAt 27 x3 1)) w fun g9s w_4 =>
 opK Tryd.prog E (xV (Instr.loadAt 3 g9s)) w_4 fun g9t w_6 =>
 opK Tryd.prog E (xBin .eql 3 (.tmp 25) (.const (Value.int .i64 0)) g9t (Value.int .i64 0)) w_6 fun g9u w_8 =>
 xcut (fun e5S a5h => d0q x0 x3 x4 x5 (nth e5S 0) a5h R E) fun j2 =>
 opK Tryd.prog E (xV (Instr.fieldAt 27 x3 0)) w_8 fun e9U a6Y =>
 opK Tryd.prog E (xV (Instr.loadAt 3 e9U)) a6Y fun e9V a5e =>
 opK Tryd.prog E (xBin .eql 3 (.tmp 28) (.const (Value.int .i64 3)) e9V (Value.int .i64 3)) a5e fun e9W a7Q =>
 xcond e9W
 (opK Tryd.prog E (xV (Instr.fieldAt 27 x3 1)) a7Q fun e9X a7b =>
 opK Tryd.prog E (xV (Instr.loadAt 3 e9X)) a7b fun e9Y a7c =>
 opK Tryd.prog E (xBin .geq 3 (.tmp 31) (.const (Value.int .i64 1)) e9Y (Value.int .i64 1)) a7c fun b9O a7d =>
 opK Tryd.prog E (gsem (asB b9O) true (xV (Instr.fieldAt 27 x3 1))) a7d fun e9Z a5X =>
 opK Tryd.prog E (gsem (asB b9O) true (xV (Instr.loadAt 3 e9Z))) a5X fun f0a a4f =>
 opK Tryd.prog E (gsem (asB b9O) true (xBin .leq 3 (.tmp 35) (.const (Value.int .i64 6)) f0a (Value.int .i64 6))) a4f fun f0b a4F =>
 opK Tryd.prog E (xPick b9O f0b (Value.bool false)) a4F fun f0c a4G =>
 j2 [f0c] a4G)
 (j2 [g9u] a7Q))
def d0t (x0 _x3 x4 x5 x21 : Value) (w : World) (j1 : List Value → World → Prop) (_R : Value → World → Prop) (E : Pan) : Prop :=
 ∀ _τ : Fr, (xcond x21
 (j1 [x4, (Value.int .i64 2)] w)
 (opK Tryd.prog E (xNil x0) w fun f0d a7e =>
 opK Tryd.prog E (xV (Instr.fieldAt 133 f0d 0)) a7e fun f0e a8O =>
 opK Tryd.prog E (xU (Instr.storeAt 4 f0e (Value.bool false))) a8O fun _z_141 a7f =>
 j1 [x4, x5] a7f))
def d0u (x0 x3 x4 x5 x10 x14 : Value) (w : World) (j1 : List Value → World → Prop) (R : Value → World → Prop) (E : Pan) : Prop :=
 ∀ _τ : Fr, (xcond x14
 (j1 [x4, x5] w)
 (opK Tryd.prog E (xBin .eql 3 (.tmp 10) (.const (Value.int .i64 3)) x10 (Value.int .i64 3)) w fun f0f a4h =>
 xcond f0f
 (j1 [(Value.int .i64 2), x5] a4h)
 (opK Tryd.prog E (xBin .eql 3 (.tmp 10) (.const (Value.int .i64 4)) x10 (Value.int .i64 4)) a4h fun f0g a3D =>
 xcond f0g
 (j1 [x4, (Value.int .i64 1)] a3D)
 (xcut (fun g9v a3E => d0t x0 x3 x4 x5 (nth g9v 0) a3E j1 R E) fun j7 =>
 opK Tryd.prog E (xBin .eql 3 (.tmp 10) (.const (Value.int .i64 5)) x10 (Value.int .i64 5)) a3D fun d2M a5Y =>
 xcond d2M
 (j7 [d2M] a5Y)
 (opK Tryd.prog E (xBin .eql 3 (.tmp 10) (.const (Value.int .i64 6)) x10 (Value.int .i64 6)) a5Y fun f0h b6r =>
 j7 [f0h] b6r)))))
def F78 (x0 x1 : Value) (w : World) (R : Value → World → Prop) (E : Pan) : Prop :=
 opK Tryd.prog E (xV (Instr.box 27 x1)) w fun b2Q w_2 =>
 xcut (fun e5T a5i => d0s x0 b2Q (nth e5T 0) (nth e5T.tail 0) a5i R E) fun j1 =>
 opK Tryd.prog E (xV (Instr.fieldAt 27 b2Q 0)) w_2 fun g1t a3F =>
 opK Tryd.prog E (xV (Instr.loadAt 3 g1t)) a3F fun c5v a4g =>
 xcut (fun g9w c3e => d0u x0 b2Q (Value.int .i64 0) (Value.int .i64 0) c5v (nth g9w 0) c3e j1 R E) fun j6 =>
 opK Tryd.prog E (xBin .eql 3 (.tmp 10) (.const (Value.int .i64 1)) c5v (Value.int .i64 1)) a4g fun d2N b9y =>
 xcond d2N
 (j6 [d2N] b9y)
 (opK Tryd.prog E (xBin .eql 3 (.tmp 10) (.const (Value.int .i64 2)) c5v (Value.int .i64 2)) b9y fun f0i c3h =>
 j6 [f0i] c3h)
noncomputable def c78 : Code := Tryd.f78.body.getD .skip
def h78 : Hint := (.seq .none (.seq .none (.cut [4, 5] (.seq .none (.block (.cut [14] (.seq .none (.cond .none .none)) (.cond .none (.seq .none (.cond .none (.seq .none (.cond .none (.cut [21] (.seq .none (.cond .none .none)) (.cond .none .none)))))))))) (.seq .none (.cut [6] (.seq .none (.cond .none .none)) (.seq .none (.cut [] (.seq .none (.block (.loop [7] (.seq (.seq .none (.cond .none .none)) (.seq (.block .none) .none))))) (.seq .none (.block (.loop [8] (.seq (.seq .none (.cond .none .none)) (.seq (.block .none) .none))))))))))))
theorem g1u (x0 x1 : Value) (w : World) (R : Value → World → Prop) (E : Pan) : F78 x0 x1 w R E = callX Tryd.prog [] c78 h78 [x0, x1] w R E := by kernel_rfl
theorem g1v {x0 x1 : Value} {w : World} {R : Value → World → Prop} {E : Pan} (h : F78 x0 x1 w R E) : Cv Tryd.prog 78 #[x0, x1] w R E := by
 refine g7 (args := [x0, x1]) (c := c78) (h := h78) (rs := []) Tryd.func78 (by kernel_rfl) (by kernel_rfl) (Nat.le_of_ble_eq_true (by kernel_rfl)) (by kernel_rfl) (by kernel_rfl) (by kernel_rfl) ?_
 rw [← g1u]
 exact h
def d4Y (x0 x1 x2 : Value) (w : World) (R : Value → World → Prop) (E : Pan) : Prop :=
 opK Tryd.prog E (xV (Op.unary .not x2)) w fun Z5 w_2 =>
 xcond Z5
 (opK Tryd.prog E (xNil x0) w_2 fun a8G w_4 =>
 opK Tryd.prog E (xV (Instr.fieldAt 133 a8G 0)) w_4 fun a5g w_6 =>
 opK Tryd.prog E (xV (Instr.loadAt 4 a5g)) w_6 fun a2I w_8 =>
 opK Tryd.prog E (gsem (asB a2I) true (xBin .eql 9 (.tmp 14) (.const (Value.string ⟨#[]⟩)) (gval (asB a2I) true x1) (Value.string ⟨#[]⟩))) w_8 fun b6o l0 =>
 opK Tryd.prog E (xPick a2I b6o (Value.bool false)) l0 fun a0B m6 =>
 opK Tryd.prog E (xNil x0) m6 fun b2R l8 =>
 opK Tryd.prog E (xV (Instr.fieldAt 133 b2R 0)) l8 fun c8l o5 =>
 opK Tryd.prog E (xU (Instr.storeAt 4 c8l a0B)) o5 fun _z_17 p5 =>
 R (Value.tuple #[]) p5)
 (opK Tryd.prog E (xNil x0) w_2 fun c8I o7 =>
 opK Tryd.prog E (xV (Instr.fieldAt 133 c8I 1)) o7 fun b8m r9 =>
 opK Tryd.prog E (xV (Instr.loadAt 4 b8m)) r9 fun b8n q8 =>
 opK Tryd.prog E (gsem (asB b8n) true (xCall (Value.func (.func 121) #[] #[]) [(gval (asB b8n) true x1)])) q8 fun c8n t7 =>
 opK Tryd.prog E (xPick b8n c8n (Value.bool false)) t7 fun c8o w4 =>
 opK Tryd.prog E (xNil x0) w4 fun g1w A8 =>
 opK Tryd.prog E (xV (Instr.fieldAt 133 g1w 1)) A8 fun g1x w5 =>
 opK Tryd.prog E (xU (Instr.storeAt 4 g1x c8o)) w5 fun _z_33 z2 =>
 R (Value.tuple #[]) z2)
noncomputable def g1y : Code := Tryd.f103.body.getD .skip
def g1z : Hint := (.seq (.seq .none (.cond (.seq .none .none) .none)) .none)
theorem f0j (x0 x1 x2 : Value) (w : World) (R : Value → World → Prop) (E : Pan) : d4Y x0 x1 x2 w R E = callX Tryd.prog [] g1y g1z [x0, x1, x2] w R E := by kernel_rfl
theorem f0k {x0 x1 x2 : Value} {w : World} {R : Value → World → Prop} {E : Pan} (h : d4Y x0 x1 x2 w R E) : Cv Tryd.prog 103 #[x0, x1, x2] w R E := by
 refine g7 (args := [x0, x1, x2]) (c := g1y) (h := g1z) (rs := []) Tryd.func103 (by kernel_rfl) (by kernel_rfl) (Nat.le_of_ble_eq_true (by kernel_rfl)) (by kernel_rfl) (by kernel_rfl) (by kernel_rfl) ?_
 rw [← f0j]
 exact h
def c5w (x3 : Value) (w : World) (R : Value → World → Prop) (E : Pan) : Prop :=
 ∀ _τ : Fr, (opK Tryd.prog E (xBin .leq 3 (.tmp 52) (.const (Value.int .i64 32)) x3 (Value.int .i64 32)) w fun g1A l8 =>
 R g1A l8)
def d2O (x0 x3 x4 : Value) (w : World) (next2 : List Value → World → Prop) (j1 : List Value → World → Prop) (R : Value → World → Prop) (E : Pan) : Prop :=
 opK Tryd.prog E (xBuiltin .len #[9] 3 [false] [x0]) w fun b5v p5 =>
 opK Tryd.prog E (xBin .lss 3 (.tmp 20) (.tmp 22) x4 b5v) p5 fun d0v o7 =>
 xcond d0v
 (opK Tryd.prog E (xCall (Value.func (.func 144) #[] #[]) [x0, x4]) o7 fun b2S r9 =>
 opK Tryd.prog E (xV (Instr.extract b2S 0)) r9 fun a2h q8 =>
 opK Tryd.prog E (xV (Instr.extract b2S 1)) q8 fun g1B t7 =>
 opK Tryd.prog E (xV (Instr.extract b2S 2)) t7 fun g1C w4 =>
 opK Tryd.prog E (xCall (Value.func (.func 145) #[] #[]) [a2h]) w4 fun b8r A8 =>
 opK Tryd.prog E (xV (Op.unary .not g1C)) A8 fun a6L w5 =>
 opK Tryd.prog E (gsem (asB a6L) false (xBin .neq 3 (.tmp 36) (.const (Value.int .i64 3)) (gval (asB a6L) false b8r) (Value.int .i64 3))) w5 fun a9a z2 =>
 opK Tryd.prog E (gsem (asB (gval (asB a6L) false a9a)) true (xBin .neq 3 (.tmp 39) (.const (Value.int .i64 4)) (gval (asB (gval (asB a6L) false a9a)) true b8r) (Value.int .i64 4))) z2 fun a4p F1 =>
 opK Tryd.prog E (gsem (asB (gval (asB (gval (asB a6L) false a9a)) true a4p)) false (xBin .eql 3 (.tmp 42) (.const (Value.int .i64 0)) (gval (asB (gval (asB (gval (asB a6L) false a9a)) true a4p)) false x3) (Value.int .i64 0))) F1 fun b9a D3 =>
 opK Tryd.prog E (gsem (asB (gval (asB a6L) false a9a)) true (xPick (gval (asB (gval (asB a6L) false a9a)) true a4p) (Value.bool true) b9a)) D3 fun g1D F5 =>
 opK Tryd.prog E (gsem (asB a6L) false (xPick (gval (asB a6L) false a9a) g1D (Value.bool false))) F5 fun c3w D4 =>
 opK Tryd.prog E (xPick a6L (Value.bool true) c3w) D4 fun d0w D9 =>
 xcond d0w
 (R (Value.bool false) D9)
 (opK Tryd.prog E (xBin .add 3 (.tmp 47) (.const (Value.int .i64 1)) x3 (Value.int .i64 1)) D9 fun g1E M5 =>
 opK Tryd.prog E (xBin .add 3 (.tmp 49) (.tmp 50) x4 g1B) M5 fun g1F K5 =>
 next2 [g1E, g1F] K5))
 (j1 [x3] o7)
def d4Z (x0 : Value) (w : World) (R : Value → World → Prop) (E : Pan) : Prop :=
 opK Tryd.prog E (xBin .eql 9 (.tmp 9) (.const (Value.string ⟨#[]⟩)) x0 (Value.string ⟨#[]⟩)) w fun b4c w_2 =>
 opK Tryd.prog E (gsem (asB b4c) false (xBuiltin .len #[9] 3 [false] [(gval (asB b4c) false x0)])) w_2 fun c3x w_4 =>
 opK Tryd.prog E (gsem (asB b4c) false (xBin .gtr 3 (.tmp 13) (.const (Value.int .i64 128)) c3x (Value.int .i64 128))) w_4 fun b0u w_6 =>
 opK Tryd.prog E (xPick b4c (Value.bool true) b0u) w_6 fun b7e w_8 =>
 opK Tryd.prog E (gsem (asB b7e) false (xCall (Value.func (.func 143) #[] #[]) [(gval (asB b7e) false x0)])) w_8 fun g9x l0 =>
 opK Tryd.prog E (xPick b7e (Value.bool true) g9x) l0 fun b0C m6 =>
 xcond b0C
 (R (Value.bool false) m6)
 (xcut (fun c1x o5 => c5w (nth c1x 0) o5 R E) fun j1 =>
 xloop [3, 4] [(Value.int .i64 0), (Value.int .i64 0)] m6 fun τ_49 J6 next2 =>
 d2O x0 (τ_49 3) (τ_49 4) J6 next2 j1 R E)
noncomputable def g1G : Code := Tryd.f121.body.getD .skip
def g1H : Hint := (.seq .none (.seq (.seq .none (.cond (.seq .none .none) .none)) (.seq .none (.cut [3] (.seq .none (.block (.loop [3, 4] (.seq (.seq .none (.cond .none .none)) (.block (.seq .none (.seq .none (.seq (.seq .none (.cond (.seq .none .none) .none)) (.seq .none .none))))))))) (.seq .none .none)))))
theorem f0l (x0 : Value) (w : World) (R : Value → World → Prop) (E : Pan) : d4Z x0 w R E = callX Tryd.prog [.tmp 2] g1G g1H [x0] w R E := by kernel_rfl
theorem f0m {x0 : Value} {w : World} {R : Value → World → Prop} {E : Pan} (h : d4Z x0 w R E) : Cv Tryd.prog 121 #[x0] w R E := by
 refine g7 (args := [x0]) (c := g1G) (h := g1H) (rs := [.tmp 2]) Tryd.func121 (by kernel_rfl) (by kernel_rfl) (Nat.le_of_ble_eq_true (by kernel_rfl)) (by kernel_rfl) (by kernel_rfl) (by kernel_rfl) ?_
 rw [← f0l]
 exact h
def c5x (x4 : Value) (w : World) (R : Value → World → Prop) (_E : Pan) : Prop :=
 ∀ _τ : Fr, (xcond x4
 (R (Value.bool true) w)
 (R (Value.bool false) w))
def d5a (x0 : Value) (w : World) (R : Value → World → Prop) (E : Pan) : Prop :=
 xcut (fun l_1 w_2 => c5x (nth l_1 0) w_2 R E) fun j1 =>
 opK Tryd.prog E (xBin .eql 9 (.tmp 3) (.const (Value.string ⟨#[118, 97, 114]⟩)) x0 (Value.string ⟨#[118, 97, 114]⟩)) w fun a9M w_4 =>
 xcond a9M
 (j1 [a9M] w_4)
 (opK Tryd.prog E (xBin .eql 9 (.tmp 3) (.const (Value.string ⟨#[97, 114, 114, 97, 121]⟩)) x0 (Value.string ⟨#[97, 114, 114, 97, 121]⟩)) w_4 fun a9J w_6 =>
 xcond a9J
 (j1 [a9J] w_6)
 (opK Tryd.prog E (xBin .eql 9 (.tmp 3) (.const (Value.string ⟨#[105, 102]⟩)) x0 (Value.string ⟨#[105, 102]⟩)) w_6 fun b1W w_8 =>
 xcond b1W
 (j1 [b1W] w_8)
 (opK Tryd.prog E (xBin .eql 9 (.tmp 3) (.const (Value.string ⟨#[101, 108, 115, 101]⟩)) x0 (Value.string ⟨#[101, 108, 115, 101]⟩)) w_8 fun a4y l0 =>
 xcond a4y
 (j1 [a4y] l0)
 (opK Tryd.prog E (xBin .eql 9 (.tmp 3) (.const (Value.string ⟨#[119, 104, 105, 108, 101]⟩)) x0 (Value.string ⟨#[119, 104, 105, 108, 101]⟩)) l0 fun a2G m6 =>
 xcond a2G
 (j1 [a2G] m6)
 (opK Tryd.prog E (xBin .eql 9 (.tmp 3) (.const (Value.string ⟨#[97, 115, 115, 101, 114, 116]⟩)) x0 (Value.string ⟨#[97, 115, 115, 101, 114, 116]⟩)) m6 fun a5L l8 =>
 xcond a5L
 (j1 [a5L] l8)
 (opK Tryd.prog E (xBin .eql 9 (.tmp 3) (.const (Value.string ⟨#[97, 115, 115, 117, 109, 101]⟩)) x0 (Value.string ⟨#[97, 115, 115, 117, 109, 101]⟩)) l8 fun b8o o5 =>
 xcond b8o
 (j1 [b8o] o5)
 (opK Tryd.prog E (xBin .eql 9 (.tmp 3) (.const (Value.string ⟨#[115, 107, 105, 112]⟩)) x0 (Value.string ⟨#[115, 107, 105, 112]⟩)) o5 fun b8p p5 =>
 xcond b8p
 (j1 [b8p] p5)
 (opK Tryd.prog E (xBin .eql 9 (.tmp 3) (.const (Value.string ⟨#[105, 110, 112, 117, 116]⟩)) x0 (Value.string ⟨#[105, 110, 112, 117, 116]⟩)) p5 fun b2g o7 =>
 xcond b2g
 (j1 [b2g] o7)
 (opK Tryd.prog E (xBin .eql 9 (.tmp 3) (.const (Value.string ⟨#[116, 114, 117, 101]⟩)) x0 (Value.string ⟨#[116, 114, 117, 101]⟩)) o7 fun b2h r9 =>
 xcond b2h
 (j1 [b2h] r9)
 (opK Tryd.prog E (xBin .eql 9 (.tmp 3) (.const (Value.string ⟨#[102, 97, 108, 115, 101]⟩)) x0 (Value.string ⟨#[102, 97, 108, 115, 101]⟩)) r9 fun b8q q8 =>
 j1 [b8q] q8))))))))))
noncomputable def g1I : Code := Tryd.f143.body.getD .skip
def g1J : Hint := (.seq .none (.seq (.seq .none (.block (.cut [4] (.seq .none (.cond .none (.seq .none (.cond .none (.seq .none (.cond .none (.seq .none (.cond .none (.seq .none (.cond .none (.seq .none (.cond .none (.seq .none (.cond .none (.seq .none (.cond .none (.seq .none (.cond .none (.seq .none (.cond .none .none)))))))))))))))))))) (.cond (.seq .none .none) .none)))) (.seq .none .none)))
theorem f0n (x0 : Value) (w : World) (R : Value → World → Prop) (E : Pan) : d5a x0 w R E = callX Tryd.prog [.tmp 2] g1I g1J [x0] w R E := by kernel_rfl
theorem f0o {x0 : Value} {w : World} {R : Value → World → Prop} {E : Pan} (h : d5a x0 w R E) : Cv Tryd.prog 143 #[x0] w R E := by
 refine g7 (args := [x0]) (c := g1I) (h := g1J) (rs := [.tmp 2]) Tryd.func143 (by kernel_rfl) (by kernel_rfl) (Nat.le_of_ble_eq_true (by kernel_rfl)) (by kernel_rfl) (by kernel_rfl) (by kernel_rfl) ?_
 rw [← f0n]
 exact h
def c5y (x8 x9 x10 : Value) (w : World) (R : Value → World → Prop) (E : Pan) : Prop :=
 ∀ _τ : Fr, (opK Tryd.prog E (xBin .lss 3 (.tmp 84) (.tmp 85) x10 x9) w fun d5b w_6 =>
 opK Tryd.prog E (gsem (asB d5b) false (xBin .gtr 3 (.tmp 88) (.const (Value.int .i64 1114111)) (gval (asB d5b) false x10) (Value.int .i64 1114111))) w_6 fun g9y w_8 =>
 opK Tryd.prog E (xPick d5b (Value.bool true) g9y) w_8 fun b7f l0 =>
 opK Tryd.prog E (gsem (asB b7f) false (xBin .geq 3 (.tmp 92) (.const (Value.int .i64 55296)) (gval (asB b7f) false x10) (Value.int .i64 55296))) l0 fun d0x m6 =>
 opK Tryd.prog E (gsem (asB (gval (asB b7f) false d0x)) true (xBin .lss 3 (.tmp 95) (.const (Value.int .i64 57344)) (gval (asB (gval (asB b7f) false d0x)) true x10) (Value.int .i64 57344))) m6 fun g1K l8 =>
 opK Tryd.prog E (gsem (asB b7f) false (xPick (gval (asB b7f) false d0x) g1K (Value.bool false))) l8 fun g1L o5 =>
 opK Tryd.prog E (xPick b7f (Value.bool true) g1L) o5 fun g1M p5 =>
 xcond g1M
 (R (Value.tuple #[(Value.int .i64 65533), (Value.int .i64 1), (Value.bool false)]) p5)
 (R (Value.tuple #[x10, x8, (Value.bool true)]) p5))
def d2P (x0 x1 x8 _x9 x10 x11 : Value) (w : World) (next3 : List Value → World → Prop) (j2 : List Value → World → Prop) (R : Value → World → Prop) (E : Pan) : Prop :=
 opK Tryd.prog E (xBin .lss 3 (.tmp 47) (.tmp 48) x11 x8) w fun d0r r9 =>
 xcond d0r
 (opK Tryd.prog E (xBin .add 3 (.tmp 52) (.tmp 53) x1 x11) r9 fun g1N q8 =>
 opK Tryd.prog E (xBuiltin .len #[9] 3 [false] [x0]) q8 fun g1O t7 =>
 opK Tryd.prog E (xBin .geq 3 (.tmp 54) (.tmp 56) g1N g1O) t7 fun b2T w4 =>
 opK Tryd.prog E (gsem (asB b2T) false (xBin .add 3 (.tmp 60) (.tmp 61) (gval (asB b2T) false x1) (gval (asB b2T) false x11))) w4 fun g1P A8 =>
 opK Tryd.prog E (gsem (asB b2T) false (xV (Instr.index 9 (gval (asB b2T) false x0) g1P))) A8 fun g1Q w5 =>
 opK Tryd.prog E (gsem (asB b2T) false (xBin .lss 5 (.tmp 63) (.const (Value.int .u8 128)) g1Q (Value.int .u8 128))) w5 fun g1R z2 =>
 opK Tryd.prog E (xPick b2T (Value.bool true) g1R) z2 fun b2U F1 =>
 opK Tryd.prog E (gsem (asB b2U) false (xBin .add 3 (.tmp 68) (.tmp 69) (gval (asB b2U) false x1) (gval (asB b2U) false x11))) F1 fun g1S D3 =>
 opK Tryd.prog E (gsem (asB b2U) false (xV (Instr.index 9 (gval (asB b2U) false x0) g1S))) D3 fun g1T F5 =>
 opK Tryd.prog E (gsem (asB b2U) false (xBin .geq 5 (.tmp 71) (.const (Value.int .u8 192)) g1T (Value.int .u8 192))) F5 fun g1U D4 =>
 opK Tryd.prog E (xPick b2U (Value.bool true) g1U) D4 fun g1V D9 =>
 xcond g1V
 (R (Value.tuple #[(Value.int .i64 65533), (Value.int .i64 1), (Value.bool false)]) D9)
 (opK Tryd.prog E (xBin .mul 3 (.const (Value.int .i64 64)) (.tmp 74) (Value.int .i64 64) x10) D9 fun g1W M5 =>
 opK Tryd.prog E (xBin .add 3 (.tmp 77) (.tmp 78) x1 x11) M5 fun g1X K5 =>
 opK Tryd.prog E (xV (Instr.index 9 x0 g1X)) K5 fun g1Y J6 =>
 opK Tryd.prog E (xV (convert 5 3 g1Y)) J6 fun g1Z L3 =>
 opK Tryd.prog E (xBin .add 3 (.tmp 75) (.tmp 81) g1W g1Z) L3 fun g2a I7 =>
 opK Tryd.prog E (xBin .sub 3 (.tmp 82) (.const (Value.int .i64 128)) g2a (Value.int .i64 128)) I7 fun g2c M6 =>
 opK Tryd.prog E (xBin .add 3 (.tmp 50) (.const (Value.int .i64 1)) x11 (Value.int .i64 1)) M6 fun g2d J5 =>
 next3 [g2c, g2d] J5))
 (j2 [x10] r9)
def c5z (x0 x1 x8 x9 x10 : Value) (w : World) (R : Value → World → Prop) (E : Pan) : Prop :=
 ∀ _τ : Fr, (xcut (fun a4T o7 => c5y x8 x9 (nth a4T 0) o7 R E) fun j2 =>
 xloop [10, 11] [x10, (Value.int .i64 1)] w fun τ_59 M2 next3 =>
 d2P x0 x1 x8 x9 (τ_59 10) (τ_59 11) M2 next3 j2 R E)
def d5c (x0 x1 : Value) (w : World) (R : Value → World → Prop) (E : Pan) : Prop :=
 opK Tryd.prog E (xV (Instr.index 9 x0 x1)) w fun g9z w_2 =>
 opK Tryd.prog E (xV (convert 5 3 g9z)) w_2 fun a9b w_4 =>
 xcut (fun d5d L2 => c5z x0 x1 (nth d5d 0) (nth d5d.tail 0) (nth d5d.tail.tail 0) L2 R E) fun j1 =>
 opK Tryd.prog E (xBin .lss 3 (.tmp 17) (.const (Value.int .i64 128)) a9b (Value.int .i64 128)) w_4 fun g2e M3 =>
 xcond g2e
 (R (Value.tuple #[a9b, (Value.int .i64 1), (Value.bool true)]) M3)
 (opK Tryd.prog E (xBin .geq 3 (.tmp 21) (.const (Value.int .i64 194)) a9b (Value.int .i64 194)) M3 fun d0y U0 =>
 opK Tryd.prog E (gsem (asB d0y) true (xBin .lss 3 (.tmp 24) (.const (Value.int .i64 224)) (gval (asB d0y) true a9b) (Value.int .i64 224))) U0 fun g2f U7 =>
 opK Tryd.prog E (xPick d0y g2f (Value.bool false)) U7 fun g2g U1 =>
 xcond g2g
 (opK Tryd.prog E (xBin .sub 3 (.tmp 27) (.const (Value.int .i64 192)) a9b (Value.int .i64 192)) U1 fun g2h a0r =>
 j1 [(Value.int .i64 2), (Value.int .i64 128), g2h] a0r)
 (opK Tryd.prog E (xBin .geq 3 (.tmp 30) (.const (Value.int .i64 224)) a9b (Value.int .i64 224)) U1 fun d0z a0s =>
 opK Tryd.prog E (gsem (asB d0z) true (xBin .lss 3 (.tmp 33) (.const (Value.int .i64 240)) (gval (asB d0z) true a9b) (Value.int .i64 240))) a0s fun g2i Z3 =>
 opK Tryd.prog E (xPick d0z g2i (Value.bool false)) Z3 fun g2j W3 =>
 xcond g2j
 (opK Tryd.prog E (xBin .sub 3 (.tmp 36) (.const (Value.int .i64 224)) a9b (Value.int .i64 224)) W3 fun g2k X3 =>
 j1 [(Value.int .i64 3), (Value.int .i64 2048), g2k] X3)
 (opK Tryd.prog E (xBin .geq 3 (.tmp 39) (.const (Value.int .i64 240)) a9b (Value.int .i64 240)) W3 fun d0A Z1 =>
 opK Tryd.prog E (gsem (asB d0A) true (xBin .lss 3 (.tmp 42) (.const (Value.int .i64 245)) (gval (asB d0A) true a9b) (Value.int .i64 245))) Z1 fun g2l a0q =>
 opK Tryd.prog E (xPick d0A g2l (Value.bool false)) a0q fun g2m a0A =>
 xcond g2m
 (opK Tryd.prog E (xBin .sub 3 (.tmp 45) (.const (Value.int .i64 240)) a9b (Value.int .i64 240)) a0A fun g2n Z2 =>
 j1 [(Value.int .i64 4), (Value.int .i64 65536), g2n] Z2)
 (R (Value.tuple #[(Value.int .i64 65533), (Value.int .i64 1), (Value.bool false)]) a0A))))
noncomputable def g2o : Code := Tryd.f144.body.getD .skip
def g2p : Hint := (.seq .none (.seq .none (.seq .none (.cut [8, 9, 10] (.block (.seq .none (.cond (.seq .none .none) (.seq .none (.cond .none (.seq .none (.cond .none (.seq .none (.cond .none (.seq .none .none)))))))))) (.cut [10] (.seq .none (.block (.loop [10, 11] (.seq (.seq .none (.cond .none .none)) (.seq (.block (.seq (.seq .none (.cond (.seq .none .none) .none)) .none)) .none))))) (.seq (.seq .none (.cond (.seq .none .none) .none)) (.seq .none .none)))))))
theorem f0p (x0 x1 : Value) (w : World) (R : Value → World → Prop) (E : Pan) : d5c x0 x1 w R E = callX Tryd.prog [.tmp 4, .tmp 5, .tmp 6] g2o g2p [x0, x1] w R E := by kernel_rfl
theorem f0q {x0 x1 : Value} {w : World} {R : Value → World → Prop} {E : Pan} (h : d5c x0 x1 w R E) : Cv Tryd.prog 144 #[x0, x1] w R E := by
 refine g7 (args := [x0, x1]) (c := g2o) (h := g2p) (rs := [.tmp 4, .tmp 5, .tmp 6]) Tryd.func144 (by kernel_rfl) (by kernel_rfl) (Nat.le_of_ble_eq_true (by kernel_rfl)) (by kernel_rfl) (by kernel_rfl) (by kernel_rfl) ?_
 rw [← f0p]
 exact h
def c5A (w : World) (R : Value → World → Prop) (_E : Pan) : Prop :=
 ∀ _τ : Fr, (R (Value.int .i64 6) w)
def d2Q (x0 x3 x4 : Value) (w : World) (next2 : List Value → World → Prop) (j1 : List Value → World → Prop) (R : Value → World → Prop) (E : Pan) : Prop :=
 opK Tryd.prog E (xBuiltin .len #[9] 3 [false] [x3]) w fun d0B L3 =>
 opK Tryd.prog E (xBin .lss 3 (.tmp 53) (.tmp 55) x4 d0B) L3 fun d0C I7 =>
 xcond d0C
 (opK Tryd.prog E (xV (Instr.index 9 x3 x4)) I7 fun g2q M6 =>
 opK Tryd.prog E (xV (convert 5 3 g2q)) M6 fun g2r J5 =>
 opK Tryd.prog E (xBin .eql 3 (.tmp 59) (.tmp 63) x0 g2r) J5 fun g2s M2 =>
 xcond g2s
 (R (Value.int .i64 5) M2)
 (opK Tryd.prog E (xBin .add 3 (.tmp 57) (.const (Value.int .i64 1)) x4 (Value.int .i64 1)) M2 fun g2t L2 =>
 next2 [g2t] L2))
 (j1 [] I7)
def d5e (x0 : Value) (w : World) (R : Value → World → Prop) (E : Pan) : Prop :=
 opK Tryd.prog E (xBin .eql 3 (.tmp 5) (.const (Value.int .i64 32)) x0 (Value.int .i64 32)) w fun a7s w_2 =>
 opK Tryd.prog E (gsem (asB a7s) false (xBin .eql 3 (.tmp 8) (.const (Value.int .i64 9)) (gval (asB a7s) false x0) (Value.int .i64 9))) w_2 fun a6v w_4 =>
 opK Tryd.prog E (xPick a7s (Value.bool true) a6v) w_4 fun a5f w_6 =>
 opK Tryd.prog E (gsem (asB a5f) false (xBin .eql 3 (.tmp 12) (.const (Value.int .i64 13)) (gval (asB a5f) false x0) (Value.int .i64 13))) w_6 fun R7 w_8 =>
 opK Tryd.prog E (xPick a5f (Value.bool true) R7) w_8 fun a8L l0 =>
 xcond a8L
 (R (Value.int .i64 1) l0)
 (opK Tryd.prog E (xBin .eql 3 (.tmp 15) (.const (Value.int .i64 10)) x0 (Value.int .i64 10)) l0 fun a0B m6 =>
 xcond a0B
 (R (Value.int .i64 2) m6)
 (opK Tryd.prog E (xCall (Value.func (.func 152) #[] #[]) [x0, (Value.int .i64 48), (Value.int .i64 57)]) m6 fun a4U l8 =>
 xcond a4U
 (R (Value.int .i64 4) l8)
 (opK Tryd.prog E (xCall (Value.func (.func 152) #[] #[]) [x0, (Value.int .i64 97), (Value.int .i64 122)]) l8 fun b2d o5 =>
 opK Tryd.prog E (gsem (asB b2d) false (xCall (Value.func (.func 152) #[] #[]) [(gval (asB b2d) false x0), (Value.int .i64 65), (Value.int .i64 90)])) o5 fun b2V p5 =>
 opK Tryd.prog E (xPick b2d (Value.bool true) b2V) p5 fun b8i o7 =>
 opK Tryd.prog E (gsem (asB b8i) false (xBin .eql 3 (.tmp 26) (.const (Value.int .i64 95)) (gval (asB b8i) false x0) (Value.int .i64 95))) o7 fun b2S r9 =>
 opK Tryd.prog E (xPick b8i (Value.bool true) b2S) r9 fun a2h q8 =>
 opK Tryd.prog E (gsem (asB a2h) false (xCall (Value.func (.func 152) #[] #[]) [(gval (asB a2h) false x0), (Value.int .i64 192), (Value.int .i64 591)])) q8 fun d0D t7 =>
 opK Tryd.prog E (gsem (asB (gval (asB a2h) false d0D)) true (xBin .neq 3 (.tmp 33) (.const (Value.int .i64 215)) (gval (asB (gval (asB a2h) false d0D)) true x0) (Value.int .i64 215))) t7 fun g2u w4 =>
 opK Tryd.prog E (gsem (asB a2h) false (xPick (gval (asB a2h) false d0D) g2u (Value.bool false))) w4 fun d0E A8 =>
 opK Tryd.prog E (gsem (asB (gval (asB a2h) false d0E)) true (xBin .neq 3 (.tmp 37) (.const (Value.int .i64 247)) (gval (asB (gval (asB a2h) false d0E)) true x0) (Value.int .i64 247))) A8 fun g2v w5 =>
 opK Tryd.prog E (gsem (asB a2h) false (xPick (gval (asB a2h) false d0E) g2v (Value.bool false))) w5 fun g2w z2 =>
 opK Tryd.prog E (xPick a2h (Value.bool true) g2w) z2 fun a4p F1 =>
 opK Tryd.prog E (gsem (asB a4p) false (xCall (Value.func (.func 152) #[] #[]) [(gval (asB a4p) false x0), (Value.int .i64 913), (Value.int .i64 969)])) F1 fun b9a D3 =>
 opK Tryd.prog E (gsem (asB (gval (asB a4p) false b9a)) true (xBin .neq 3 (.tmp 45) (.const (Value.int .i64 930)) (gval (asB (gval (asB a4p) false b9a)) true x0) (Value.int .i64 930))) D3 fun g2x F5 =>
 opK Tryd.prog E (gsem (asB a4p) false (xPick (gval (asB a4p) false b9a) g2x (Value.bool false))) F5 fun g2y D4 =>
 opK Tryd.prog E (xPick a4p (Value.bool true) g2y) D4 fun d0F D9 =>
 opK Tryd.prog E (gsem (asB d0F) false (xCall (Value.func (.func 152) #[] #[]) [(gval (asB d0F) false x0), (Value.int .i64 1040), (Value.int .i64 1103)])) D9 fun d0G M5 =>
 opK Tryd.prog E (xPick d0F (Value.bool true) d0G) M5 fun d0H K5 =>
 xcond d0H
 (R (Value.int .i64 3) K5)
 (xcut (fun _ J6 => c5A J6 R E) fun j1 =>
 xloop [4] [(Value.int .i64 0)] K5 fun τ_63 M3 next2 =>
 d2Q x0 (Value.string ⟨#[59, 44, 123, 125, 40, 41, 91, 93, 61, 33, 60, 62, 43, 45, 42, 47, 37, 38, 124]⟩) (τ_63 4) M3 next2 j1 R E))))
noncomputable def g2z : Code := Tryd.f145.body.getD .skip
def g2A : Hint := (.seq .none (.seq (.seq .none (.cond (.seq .none .none) .none)) (.seq (.seq .none (.cond (.seq .none .none) .none)) (.seq (.seq .none (.cond (.seq .none .none) .none)) (.seq (.seq .none (.cond (.seq .none .none) .none)) (.seq .none (.cut [] (.seq .none (.block (.loop [4] (.seq (.seq .none (.cond .none .none)) (.seq (.block (.seq .none (.cond (.seq .none .none) .none))) .none))))) (.seq .none .none))))))))
theorem f0r (x0 : Value) (w : World) (R : Value → World → Prop) (E : Pan) : d5e x0 w R E = callX Tryd.prog [.tmp 2] g2z g2A [x0] w R E := by kernel_rfl
theorem f0s {x0 : Value} {w : World} {R : Value → World → Prop} {E : Pan} (h : d5e x0 w R E) : Cv Tryd.prog 145 #[x0] w R E := by
 refine g7 (args := [x0]) (c := g2z) (h := g2A) (rs := [.tmp 2]) Tryd.func145 (by kernel_rfl) (by kernel_rfl) (Nat.le_of_ble_eq_true (by kernel_rfl)) (by kernel_rfl) (by kernel_rfl) (by kernel_rfl) ?_
 rw [← f0r]
 exact h
def d5f (x0 x1 x2 : Value) (w : World) (R : Value → World → Prop) (E : Pan) : Prop :=
 opK Tryd.prog E (xBin .geq 3 (.tmp 7) (.tmp 8) x0 x1) w fun a2Y w_2 =>
 opK Tryd.prog E (gsem (asB a2Y) true (xBin .leq 3 (.tmp 11) (.tmp 12) (gval (asB a2Y) true x0) (gval (asB a2Y) true x2))) w_2 fun c3x w_4 =>
 opK Tryd.prog E (xPick a2Y c3x (Value.bool false)) w_4 fun b0u w_6 =>
 R b0u w_6
noncomputable def g2B : Code := Tryd.f152.body.getD .skip
def g2C : Hint := (.seq .none (.seq .none .none))
theorem f0t (x0 x1 x2 : Value) (w : World) (R : Value → World → Prop) (E : Pan) : d5f x0 x1 x2 w R E = callX Tryd.prog [.tmp 6] g2B g2C [x0, x1, x2] w R E := by kernel_rfl
theorem f0u {x0 x1 x2 : Value} {w : World} {R : Value → World → Prop} {E : Pan} (h : d5f x0 x1 x2 w R E) : Cv Tryd.prog 152 #[x0, x1, x2] w R E := by
 refine g7 (args := [x0, x1, x2]) (c := g2B) (h := g2C) (rs := [.tmp 6]) Tryd.func152 (by kernel_rfl) (by kernel_rfl) (Nat.le_of_ble_eq_true (by kernel_rfl)) (by kernel_rfl) (by kernel_rfl) (by kernel_rfl) ?_
 rw [← f0t]
 exact h
end Go.Proofs.YtnhkdkcgdcgmdaaDoor
