/- The second reading of some of the program's functions, printed by gen2.py off the code; each is held against the code by the kernel. -/
import Derived.Test.YtnhkdkcgdcgmdaaGreatDoorProg
import Derived.Test.YtnhkdkcgdcgmdaaGreatDoorzFK0
import Derived.KernelRfl
import Derived.Test.YtnhkdkcgdcgmdaaGreatDoorzFGz
namespace Go.Proofs.YtnhkdkcgdcgmdaaGreatDoor
open Go.RowKit
set_option maxRecDepth 100000
variable {w : World} {R : RT} {E : Pan}
def F73 (x0 x1 x2 : Value) (w : World) (R : RT) (E : Pan) : Prop :=
 oP E (xBin .lss 3 (.tmp 7) (.const (vI 1)) x0 (vI 1)) w fun c3A w_2 =>
 oP E (gsem (asB c3A) false (xBin .gtr 3 (.tmp 10) (.const (vI 6)) (gval (asB c3A) false x0) (vI 6))) w_2 fun a4X w_4 =>
 oP E (xPick c3A (vB true) a4X) w_4 fun b1g w_6 =>
 xcond b1g
 (R (vB false) w_6)
 (oP E (xCall (fC 118) []) w_6 fun a1K w_8 =>
 oP E (xV (Instr.index 177 a1K x0)) w_8 fun c5E p5 =>
 oP E (xCall c5E [x1, x2]) p5 fun e0r q8 =>
 R e0r q8)
noncomputable def c73 : Code := Tryz.f73.body.getD .skip
def h73 : Hint := (sQ (.seq (sQ (.cond (sQ .none) .none)) (sQ .none)))
theorem i6X (x0 x1 x2 : Value) (w : World) (R : RT) (E : Pan) : F73 x0 x1 x2 w R E = callX Tryz.prog [.tmp 6] c73 h73 [x0, x1, x2] w R E := by kernel_rfl
theorem i6Y {x0 x1 x2 : Value} (h : F73 x0 x1 x2 w R E) : Cv Tryz.prog 73 #[x0, x1, x2] w R E := by
 refine k3 (args := [x0, x1, x2]) (c := c73) (h := h73) (rs := [.tmp 6]) Tryz.func73 (by kernel_rfl) (by kernel_rfl) (nB (by kernel_rfl)) (by kernel_rfl) (by kernel_rfl) (by kernel_rfl) ?_
 rw [← i6X]
 exact h
def F96 (x0 x1 x2 : Value) (w : World) (R : RT) (E : Pan) : Prop :=
 oP E (xBin .eql 3 (.tmp 7) (.const (vI 1)) x0 (vI 1)) w fun a8j w_2 =>
 xcond a8j
 (oP E (xBin .lss 2 (.tmp 10) (.tmp 11) x1 x2) w_2 fun c9X w_4 =>
 R c9X w_4)
 (oP E (xBin .eql 3 (.tmp 7) (.const (vI 2)) x0 (vI 2)) w_2 fun b4d w_6 =>
 xcond b4d
 (oP E (xBin .leq 2 (.tmp 15) (.tmp 16) x1 x2) w_6 fun j6G w_8 =>
 R j6G w_8)
 (oP E (xBin .eql 3 (.tmp 7) (.const (vI 3)) x0 (vI 3)) w_6 fun f1y p5 =>
 xcond f1y
 (oP E (xBin .eql 2 (.tmp 20) (.tmp 21) x1 x2) p5 fun e4q q8 =>
 R e4q q8)
 (oP E (xBin .eql 3 (.tmp 7) (.const (vI 4)) x0 (vI 4)) p5 fun i6Z p6 =>
 xcond i6Z
 (oP E (xBin .neq 2 (.tmp 25) (.tmp 26) x1 x2) p6 fun i7a r8 =>
 R i7a r8)
 (oP E (xBin .eql 3 (.tmp 7) (.const (vI 5)) x0 (vI 5)) p6 fun e0q s8 =>
 xcond e0q
 (oP E (xBin .gtr 2 (.tmp 30) (.tmp 31) x1 x2) s8 fun i7b r9 =>
 R i7b r9)
 (oP E (xBin .eql 3 (.tmp 7) (.const (vI 6)) x0 (vI 6)) s8 fun i7c u7 =>
 xcond i7c
 (oP E (xBin .geq 2 (.tmp 35) (.tmp 36) x1 x2) u7 fun d4T u4 =>
 R d4T u4)
 (R (vB false) u7))))))
noncomputable def c96 : Code := Tryz.f96.body.getD .skip
def h96 : Hint := (sQ (.seq (sQ (.block (sQ (.cond (sQ .none) (sQ (.cond (sQ .none) (sQ (.cond (sQ .none) (sQ (.cond (sQ .none) (sQ (.cond (sQ .none) (sQ (.cond (sQ .none) .none)))))))))))))) (sQ .none)))
theorem i7d (x0 x1 x2 : Value) (w : World) (R : RT) (E : Pan) : F96 x0 x1 x2 w R E = callX Tryz.prog [.tmp 6] c96 h96 [x0, x1, x2] w R E := by kernel_rfl
theorem i7e {x0 x1 x2 : Value} (h : F96 x0 x1 x2 w R E) : Cv Tryz.prog 96 #[x0, x1, x2] w R E := by
 refine k3 (args := [x0, x1, x2]) (c := c96) (h := h96) (rs := [.tmp 6]) Tryz.func96 (by kernel_rfl) (by kernel_rfl) (nB (by kernel_rfl)) (by kernel_rfl) (by kernel_rfl) (by kernel_rfl) ?_
 rw [← i7d]
 exact h
def F98 (x0 x1 x2 : Value) (w : World) (R : RT) (E : Pan) : Prop :=
 oP E (xBin .eql 3 (.tmp 8) (.const (vI 5)) x0 (vI 5)) w fun c2N w_2 =>
 xcond c2N
 (oP E (xCall (fC 125) [x1]) w_2 fun c9X w_4 =>
 oP E (eX c9X 0) w_4 fun b5C w_6 =>
 oP E (eX c9X 1) w_6 fun a3J w_8 =>
 R (Value.tuple #[b5C, a3J]) w_8)
 (oP E (xBin .eql 3 (.tmp 8) (.const (vI 6)) x0 (vI 6)) w_2 fun a7v p5 =>
 xcond a7v
 (oP E (xCall (fC 126) [x1, x2]) p5 fun b8z q8 =>
 oP E (eX b8z 0) q8 fun c0n p6 =>
 oP E (eX b8z 1) p6 fun c9z r8 =>
 R (Value.tuple #[c0n, c9z]) r8)
 (oP E (xBin .eql 3 (.tmp 8) (.const (vI 7)) x0 (vI 7)) p5 fun c1x s8 =>
 xcond c1x
 (oP E (xCall (fC 127) [x1, x2]) s8 fun c4T r9 =>
 oP E (eX c4T 0) r9 fun c1u u7 =>
 oP E (eX c4T 1) u7 fun a7d u4 =>
 R (Value.tuple #[c1u, a7d]) u4)
 (oP E (xBin .eql 3 (.tmp 8) (.const (vI 8)) x0 (vI 8)) s8 fun e4r z2 =>
 xcond e4r
 (oP E (xCall (fC 128) [x1, x2]) z2 fun f7u B3 =>
 oP E (eX f7u 0) B3 fun i7f C4 =>
 oP E (eX f7u 1) C4 fun i7g B6 =>
 R (Value.tuple #[i7f, i7g]) B6)
 (oP E (xBin .eql 3 (.tmp 8) (.const (vI 9)) x0 (vI 9)) z2 fun b6a A6 =>
 xcond b6a
 (oP E (xCall (fC 129) [x1, x2]) A6 fun a7Q I7 =>
 oP E (eX a7Q 0) I7 fun e4s C7 =>
 oP E (eX a7Q 1) C7 fun c0o I4 =>
 R (Value.tuple #[e4s, c0o]) I4)
 (oP E (xCall (fC 130) [x1, x2]) A6 fun c4P E8 =>
 oP E (eX c4P 0) E8 fun c9m E4 =>
 oP E (eX c4P 1) E4 fun e4t N1 =>
 R (Value.tuple #[c9m, e4t]) N1)))))
noncomputable def c98 : Code := Tryz.f98.body.getD .skip
def h98 : Hint := (sQ (.seq (sQ (.block (sQ (.cond (sQ .none) (sQ (.cond (sQ .none) (sQ (.cond (sQ .none) (sQ (.cond (sQ .none) (sQ (.cond (sQ .none) .none)))))))))))) (sQ .none)))
theorem i7h (x0 x1 x2 : Value) (w : World) (R : RT) (E : Pan) : F98 x0 x1 x2 w R E = callX Tryz.prog [.tmp 6, .tmp 7] c98 h98 [x0, x1, x2] w R E := by kernel_rfl
theorem i7i {x0 x1 x2 : Value} (h : F98 x0 x1 x2 w R E) : Cv Tryz.prog 98 #[x0, x1, x2] w R E := by
 refine k3 (args := [x0, x1, x2]) (c := c98) (h := h98) (rs := [.tmp 6, .tmp 7]) Tryz.func98 (by kernel_rfl) (by kernel_rfl) (nB (by kernel_rfl)) (by kernel_rfl) (by kernel_rfl) (by kernel_rfl) ?_
 rw [← i7h]
 exact h
def f1z (x0 : Value) (w : World) (R : RT) (E : Pan) : Prop :=
 oP E (xCall (fC 114) [(vI 0), x0]) w fun d1X w_2 =>
 oP E (eX d1X 0) w_2 fun c5F w_4 =>
 oP E (eX d1X 1) w_4 fun b2y w_6 =>
 R (Value.tuple #[c5F, b2y]) w_6
noncomputable def i7j : Code := Tryz.f112.body.getD .skip
def i7k : Hint := (sQ (sQ .none))
theorem h0X (x0 : Value) (w : World) (R : RT) (E : Pan) : f1z x0 w R E = callX Tryz.prog [.tmp 2, .tmp 3] i7j i7k [x0] w R E := by kernel_rfl
theorem h0Y {x0 : Value} (h : f1z x0 w R E) : Cv Tryz.prog 112 #[x0] w R E := by
 refine k3 (args := [x0]) (c := i7j) (h := i7k) (rs := [.tmp 2, .tmp 3]) Tryz.func112 (by kernel_rfl) (by kernel_rfl) (nB (by kernel_rfl)) (by kernel_rfl) (by kernel_rfl) (by kernel_rfl) ?_
 rw [← h0X]
 exact h
def f1A (x0 x1 : Value) (w : World) (R : RT) (E : Pan) : Prop :=
 oP E (xBin .add 2 (.tmp 7) (.tmp 8) x0 x1) w fun a8j w_2 =>
 oP E (xBin .lss 2 (.tmp 10) (.const (vI 0)) x0 (vI 0)) w_2 fun a4X w_4 =>
 oP E (xBin .lss 2 (.tmp 12) (.const (vI 0)) x1 (vI 0)) w_4 fun b5C w_6 =>
 oP E (xBin .eql 4 (.tmp 11) (.tmp 13) a4X b5C) w_6 fun a3J w_8 =>
 oP E (gsem (asB a3J) true (xBin .lss 2 (.tmp 16) (.const (vI 0)) (gval (asB a3J) true a8j) (vI 0))) w_8 fun d3G p5 =>
 oP E (gsem (asB a3J) true (xBin .lss 2 (.tmp 18) (.const (vI 0)) (gval (asB a3J) true x0) (vI 0))) p5 fun b8z q8 =>
 oP E (gsem (asB a3J) true (xBin .neq 4 (.tmp 17) (.tmp 19) d3G b8z)) q8 fun c0n p6 =>
 oP E (xPick a3J c0n (vB false)) p6 fun c9z r8 =>
 xcond c9z
 (R (Value.tuple #[(vI 0), (vI 1)]) r8)
 (R (Value.tuple #[a8j, (vI 0)]) r8)
noncomputable def i7l : Code := Tryz.f113.body.getD .skip
def i7m : Hint := (sQ (sQ (.seq (sQ (.cond (sQ .none) .none)) (sQ .none))))
theorem h0Z (x0 x1 : Value) (w : World) (R : RT) (E : Pan) : f1A x0 x1 w R E = callX Tryz.prog [.tmp 4, .tmp 5] i7l i7m [x0, x1] w R E := by kernel_rfl
theorem h1a {x0 x1 : Value} (h : f1A x0 x1 w R E) : Cv Tryz.prog 113 #[x0, x1] w R E := by
 refine k3 (args := [x0, x1]) (c := i7l) (h := i7m) (rs := [.tmp 4, .tmp 5]) Tryz.func113 (by kernel_rfl) (by kernel_rfl) (nB (by kernel_rfl)) (by kernel_rfl) (by kernel_rfl) (by kernel_rfl) ?_
 rw [← h0Z]
 exact h
def f1B (x0 x1 : Value) (w : World) (R : RT) (E : Pan) : Prop :=
 oP E (xBin .sub 2 (.tmp 7) (.tmp 8) x0 x1) w fun a8j w_2 =>
 oP E (xBin .lss 2 (.tmp 10) (.const (vI 0)) x0 (vI 0)) w_2 fun a4X w_4 =>
 oP E (xBin .lss 2 (.tmp 12) (.const (vI 0)) x1 (vI 0)) w_4 fun b5C w_6 =>
 oP E (xBin .neq 4 (.tmp 11) (.tmp 13) a4X b5C) w_6 fun a3J w_8 =>
 oP E (gsem (asB a3J) true (xBin .lss 2 (.tmp 16) (.const (vI 0)) (gval (asB a3J) true a8j) (vI 0))) w_8 fun d3G p5 =>
 oP E (gsem (asB a3J) true (xBin .lss 2 (.tmp 18) (.const (vI 0)) (gval (asB a3J) true x0) (vI 0))) p5 fun b8z q8 =>
 oP E (gsem (asB a3J) true (xBin .neq 4 (.tmp 17) (.tmp 19) d3G b8z)) q8 fun c0n p6 =>
 oP E (xPick a3J c0n (vB false)) p6 fun c9z r8 =>
 xcond c9z
 (R (Value.tuple #[(vI 0), (vI 1)]) r8)
 (R (Value.tuple #[a8j, (vI 0)]) r8)
noncomputable def i7n : Code := Tryz.f114.body.getD .skip
def i7o : Hint := (sQ (sQ (.seq (sQ (.cond (sQ .none) .none)) (sQ .none))))
theorem h1b (x0 x1 : Value) (w : World) (R : RT) (E : Pan) : f1B x0 x1 w R E = callX Tryz.prog [.tmp 4, .tmp 5] i7n i7o [x0, x1] w R E := by kernel_rfl
theorem h1c {x0 x1 : Value} (h : f1B x0 x1 w R E) : Cv Tryz.prog 114 #[x0, x1] w R E := by
 refine k3 (args := [x0, x1]) (c := i7n) (h := i7o) (rs := [.tmp 4, .tmp 5]) Tryz.func114 (by kernel_rfl) (by kernel_rfl) (nB (by kernel_rfl)) (by kernel_rfl) (by kernel_rfl) (by kernel_rfl) ?_
 rw [← h1b]
 exact h
def d7x (x0 x1 x6 x7 x8 : Value) (w : World) (R : RT) (E : Pan) : Prop :=
 ∀ _τ : Fr, (oP E (xBin .neq 200 (.tmp 24) (.const (Value.int .u64 0)) x6 (Value.int .u64 0)) w fun d4U q8 =>
 oP E (gsem (asB d4U) false (xBin .gtr 200 (.tmp 27) (.tmp 28) (gval (asB d4U) false x7) (gval (asB d4U) false x8))) q8 fun e4u p6 =>
 oP E (xPick d4U (vB true) e4u) p6 fun d4V r8 =>
 xcond d4V
 (R (Value.tuple #[(vI 0), (vI 1)]) r8)
 (oP E (xBin .mul 2 (.tmp 31) (.tmp 32) x0 x1) r8 fun c9p s8 =>
 R (Value.tuple #[c9p, (vI 0)]) s8))
def f1C (x0 x1 : Value) (w : World) (R : RT) (E : Pan) : Prop :=
 oP E (xCall (fC 147) [x0]) w fun e8d w_2 =>
 oP E (xCall (fC 147) [x1]) w_2 fun c5w w_4 =>
 oP E (xCall (fC 146) [e8d, c5w]) w_4 fun b4d w_6 =>
 oP E (eX b4d 0) w_6 fun c6J w_8 =>
 oP E (eX b4d 1) w_8 fun a7v p5 =>
 xcut (fun a8Y r9 => d7x x0 x1 c6J a7v (nth a8Y 0) r9 R E) fun j1 =>
 oP E (xBin .lss 2 (.tmp 17) (.const (vI 0)) x0 (vI 0)) p5 fun i7p u7 =>
 oP E (xBin .lss 2 (.tmp 19) (.const (vI 0)) x1 (vI 0)) u7 fun a4V u4 =>
 oP E (xBin .neq 4 (.tmp 18) (.tmp 20) i7p a4V) u4 fun e1b z2 =>
 xcond e1b
 (oP E (xBin .add 200 (.tmp 22) (.const (Value.int .u64 1)) (Value.int .u64 9223372036854775807) (Value.int .u64 1)) z2 fun i7q B3 =>
 j1 [i7q] B3)
 (j1 [(Value.int .u64 9223372036854775807)] z2)
noncomputable def i7r : Code := Tryz.f115.body.getD .skip
def i7s : Hint := (sQ (sQ (sQ (.cut [8] (sQ (.cond .none .none)) (.seq (sQ (.cond (sQ .none) .none)) (sQ .none))))))
theorem h1d (x0 x1 : Value) (w : World) (R : RT) (E : Pan) : f1C x0 x1 w R E = callX Tryz.prog [.tmp 4, .tmp 5] i7r i7s [x0, x1] w R E := by kernel_rfl
theorem h1e {x0 x1 : Value} (h : f1C x0 x1 w R E) : Cv Tryz.prog 115 #[x0, x1] w R E := by
 refine k3 (args := [x0, x1]) (c := i7r) (h := i7s) (rs := [.tmp 4, .tmp 5]) Tryz.func115 (by kernel_rfl) (by kernel_rfl) (nB (by kernel_rfl)) (by kernel_rfl) (by kernel_rfl) (by kernel_rfl) ?_
 rw [← h1d]
 exact h
def f1D (x0 x1 : Value) (w : World) (R : RT) (E : Pan) : Prop :=
 oP E (xCall (fC 148) [x0, x1]) w fun a8j w_2 =>
 oP E (xBin .neq 3 (.tmp 10) (.const (vI 0)) a8j (vI 0)) w_2 fun a4X w_4 =>
 xcond a4X
 (R (Value.tuple #[(vI 0), a8j]) w_4)
 (oP E (xBin .quo 2 (.tmp 13) (.tmp 14) x0 x1) w_4 fun d4W w_6 =>
 R (Value.tuple #[d4W, (vI 0)]) w_6)
noncomputable def i7t : Code := Tryz.f116.body.getD .skip
def i7u : Hint := (sQ (.seq (sQ (sQ (.cond (sQ .none) .none))) (sQ .none)))
theorem h1f (x0 x1 : Value) (w : World) (R : RT) (E : Pan) : f1D x0 x1 w R E = callX Tryz.prog [.tmp 4, .tmp 5] i7t i7u [x0, x1] w R E := by kernel_rfl
theorem h1g {x0 x1 : Value} (h : f1D x0 x1 w R E) : Cv Tryz.prog 116 #[x0, x1] w R E := by
 refine k3 (args := [x0, x1]) (c := i7t) (h := i7u) (rs := [.tmp 4, .tmp 5]) Tryz.func116 (by kernel_rfl) (by kernel_rfl) (nB (by kernel_rfl)) (by kernel_rfl) (by kernel_rfl) (by kernel_rfl) ?_
 rw [← h1f]
 exact h
def f1E (x0 x1 : Value) (w : World) (R : RT) (E : Pan) : Prop :=
 oP E (xCall (fC 148) [x0, x1]) w fun a8j w_2 =>
 oP E (xBin .neq 3 (.tmp 10) (.const (vI 0)) a8j (vI 0)) w_2 fun a4X w_4 =>
 xcond a4X
 (R (Value.tuple #[(vI 0), a8j]) w_4)
 (oP E (xBin .rem 2 (.tmp 13) (.tmp 14) x0 x1) w_4 fun d4W w_6 =>
 R (Value.tuple #[d4W, (vI 0)]) w_6)
noncomputable def i7v : Code := Tryz.f117.body.getD .skip
def i7w : Hint := (sQ (.seq (sQ (sQ (.cond (sQ .none) .none))) (sQ .none)))
theorem h1h (x0 x1 : Value) (w : World) (R : RT) (E : Pan) : f1E x0 x1 w R E = callX Tryz.prog [.tmp 4, .tmp 5] i7v i7w [x0, x1] w R E := by kernel_rfl
theorem h1i {x0 x1 : Value} (h : f1E x0 x1 w R E) : Cv Tryz.prog 117 #[x0, x1] w R E := by
 refine k3 (args := [x0, x1]) (c := i7v) (h := i7w) (rs := [.tmp 4, .tmp 5]) Tryz.func117 (by kernel_rfl) (by kernel_rfl) (nB (by kernel_rfl)) (by kernel_rfl) (by kernel_rfl) (by kernel_rfl) ?_
 rw [← h1h]
 exact h
def f1F (w : World) (R : RT) (E : Pan) : Prop :=
 oP E (xV (Instr.alloc 177 true (.tuple #[]))) w fun i7x w_2 =>
 oP E (xV (Instr.build 177 #[(0, (fC 149)), (1, (fC 150)), (2, (fC 151)), (3, (fC 152)), (4, (fC 153)), (5, (fC 154)), (6, (fC 155))])) w_2 fun k3u w_4 =>
 oP E (sA 177 i7x k3u) w_4 fun _z_5 w_6 =>
 xcell Tryz.prog 177 i7x w_6 fun r_7 =>
 R r_7 w_6
noncomputable def i7y : Code := Tryz.f118.body.getD .skip
def i7z : Hint := (sQ (sQ .none))
theorem h1j (w : World) (R : RT) (E : Pan) : f1F  w R E = callX Tryz.prog [.cell 0 177] i7y i7z [] w R E := by kernel_rfl
theorem h1k (h : f1F  w R E) : Cv Tryz.prog 118 #[] w R E := by
 refine k3 (args := []) (c := i7y) (h := i7z) (rs := [.cell 0 177]) Tryz.func118 (by kernel_rfl) (by kernel_rfl) (Nat.zero_le _) (by kernel_rfl) (by kernel_rfl) (by kernel_rfl) ?_
 rw [← h1j]
 exact h
def f1G (x0 : Value) (w : World) (R : RT) (E : Pan) : Prop :=
 oP E (xBin .eql 2 (.tmp 4) (.const (vI (-9223372036854775808))) x0 (vI (-9223372036854775808))) w fun d1X w_2 =>
 xcond d1X
 (R (Value.tuple #[(vI 0), (vI 1)]) w_2)
 (oP E (xV (Op.unary .neg x0)) w_2 fun b1d w_4 =>
 R (Value.tuple #[b1d, (vI 0)]) w_4)
noncomputable def i7A : Code := Tryz.f125.body.getD .skip
def i7B : Hint := (sQ (.seq (sQ (.cond (sQ .none) .none)) (sQ .none)))
theorem h1l (x0 : Value) (w : World) (R : RT) (E : Pan) : f1G x0 w R E = callX Tryz.prog [.tmp 2, .tmp 3] i7A i7B [x0] w R E := by kernel_rfl
theorem h1m {x0 : Value} (h : f1G x0 w R E) : Cv Tryz.prog 125 #[x0] w R E := by
 refine k3 (args := [x0]) (c := i7A) (h := i7B) (rs := [.tmp 2, .tmp 3]) Tryz.func125 (by kernel_rfl) (by kernel_rfl) (nB (by kernel_rfl)) (by kernel_rfl) (by kernel_rfl) (by kernel_rfl) ?_
 rw [← h1l]
 exact h
def f1H (x0 x1 : Value) (w : World) (R : RT) (E : Pan) : Prop :=
 oP E (xBin .gtr 2 (.tmp 6) (.const (vI 0)) x1 (vI 0)) w fun a3X w_2 =>
 oP E (gsem (asB a3X) true (xBin .sub 2 (.const (vI 9223372036854775807)) (.tmp 10) (vI 9223372036854775807) (gval (asB a3X) true x1))) w_2 fun a4X w_4 =>
 oP E (gsem (asB a3X) true (xBin .gtr 2 (.tmp 9) (.tmp 11) (gval (asB a3X) true x0) a4X)) w_4 fun b1g w_6 =>
 oP E (xPick a3X b1g (vB false)) w_6 fun a1K w_8 =>
 oP E (gsem (asB a1K) false (xBin .lss 2 (.tmp 15) (.const (vI 0)) (gval (asB a1K) false x1) (vI 0))) w_8 fun a7v p5 =>
 oP E (gsem (asB (gval (asB a1K) false a7v)) true (xBin .sub 2 (.const (vI (-9223372036854775808))) (.tmp 19) (vI (-9223372036854775808)) (gval (asB (gval (asB a1K) false a7v)) true x1))) p5 fun e4v q8 =>
 oP E (gsem (asB (gval (asB a1K) false a7v)) true (xBin .lss 2 (.tmp 18) (.tmp 20) (gval (asB (gval (asB a1K) false a7v)) true x0) e4v)) q8 fun e4w p6 =>
 oP E (gsem (asB a1K) false (xPick (gval (asB a1K) false a7v) e4w (vB false))) p6 fun e4x r8 =>
 oP E (xPick a1K (vB true) e4x) r8 fun c1x s8 =>
 xcond c1x
 (R (Value.tuple #[(vI 0), (vI 1)]) s8)
 (oP E (xBin .add 2 (.tmp 24) (.tmp 25) x0 x1) s8 fun c4T r9 =>
 R (Value.tuple #[c4T, (vI 0)]) r9)
noncomputable def i7C : Code := Tryz.f126.body.getD .skip
def i7D : Hint := (sQ (.seq (sQ (.cond (sQ .none) .none)) (sQ .none)))
theorem h1n (x0 x1 : Value) (w : World) (R : RT) (E : Pan) : f1H x0 x1 w R E = callX Tryz.prog [.tmp 4, .tmp 5] i7C i7D [x0, x1] w R E := by kernel_rfl
theorem h1o {x0 x1 : Value} (h : f1H x0 x1 w R E) : Cv Tryz.prog 126 #[x0, x1] w R E := by
 refine k3 (args := [x0, x1]) (c := i7C) (h := i7D) (rs := [.tmp 4, .tmp 5]) Tryz.func126 (by kernel_rfl) (by kernel_rfl) (nB (by kernel_rfl)) (by kernel_rfl) (by kernel_rfl) (by kernel_rfl) ?_
 rw [← h1n]
 exact h
def f1I (x0 x1 : Value) (w : World) (R : RT) (E : Pan) : Prop :=
 oP E (xBin .lss 2 (.tmp 6) (.const (vI 0)) x1 (vI 0)) w fun a3X w_2 =>
 oP E (gsem (asB a3X) true (xBin .add 2 (.const (vI 9223372036854775807)) (.tmp 10) (vI 9223372036854775807) (gval (asB a3X) true x1))) w_2 fun a4X w_4 =>
 oP E (gsem (asB a3X) true (xBin .gtr 2 (.tmp 9) (.tmp 11) (gval (asB a3X) true x0) a4X)) w_4 fun b1g w_6 =>
 oP E (xPick a3X b1g (vB false)) w_6 fun a1K w_8 =>
 oP E (gsem (asB a1K) false (xBin .gtr 2 (.tmp 15) (.const (vI 0)) (gval (asB a1K) false x1) (vI 0))) w_8 fun a7v p5 =>
 oP E (gsem (asB (gval (asB a1K) false a7v)) true (xBin .add 2 (.const (vI (-9223372036854775808))) (.tmp 19) (vI (-9223372036854775808)) (gval (asB (gval (asB a1K) false a7v)) true x1))) p5 fun e4v q8 =>
 oP E (gsem (asB (gval (asB a1K) false a7v)) true (xBin .lss 2 (.tmp 18) (.tmp 20) (gval (asB (gval (asB a1K) false a7v)) true x0) e4v)) q8 fun e4w p6 =>
 oP E (gsem (asB a1K) false (xPick (gval (asB a1K) false a7v) e4w (vB false))) p6 fun e4x r8 =>
 oP E (xPick a1K (vB true) e4x) r8 fun c1x s8 =>
 xcond c1x
 (R (Value.tuple #[(vI 0), (vI 1)]) s8)
 (oP E (xBin .sub 2 (.tmp 24) (.tmp 25) x0 x1) s8 fun c4T r9 =>
 R (Value.tuple #[c4T, (vI 0)]) r9)
noncomputable def i7E : Code := Tryz.f127.body.getD .skip
def i7F : Hint := (sQ (.seq (sQ (.cond (sQ .none) .none)) (sQ .none)))
theorem h1p (x0 x1 : Value) (w : World) (R : RT) (E : Pan) : f1I x0 x1 w R E = callX Tryz.prog [.tmp 4, .tmp 5] i7E i7F [x0, x1] w R E := by kernel_rfl
theorem h1q {x0 x1 : Value} (h : f1I x0 x1 w R E) : Cv Tryz.prog 127 #[x0, x1] w R E := by
 refine k3 (args := [x0, x1]) (c := i7E) (h := i7F) (rs := [.tmp 4, .tmp 5]) Tryz.func127 (by kernel_rfl) (by kernel_rfl) (nB (by kernel_rfl)) (by kernel_rfl) (by kernel_rfl) (by kernel_rfl) ?_
 rw [← h1p]
 exact h
def f1J (x0 x1 : Value) (w : World) (R : RT) (E : Pan) : Prop :=
 oP E (xBin .eql 2 (.tmp 7) (.const (vI 0)) x0 (vI 0)) w fun c3A w_2 =>
 oP E (gsem (asB c3A) false (xBin .eql 2 (.tmp 10) (.const (vI 0)) (gval (asB c3A) false x1) (vI 0))) w_2 fun a4X w_4 =>
 oP E (xPick c3A (vB true) a4X) w_4 fun b1g w_6 =>
 xcond b1g
 (R (Value.tuple #[(vI 0), (vI 0)]) w_6)
 (oP E (xBin .eql 2 (.tmp 13) (.const (vI (-1))) x0 (vI (-1))) w_6 fun a3J w_8 =>
 xcond a3J
 (oP E (xCall (fC 125) [x1]) w_8 fun a7v p5 =>
 oP E (eX a7v 0) p5 fun e4y q8 =>
 oP E (eX a7v 1) q8 fun b2A p6 =>
 R (Value.tuple #[e4y, b2A]) p6)
 (oP E (xBin .eql 2 (.tmp 19) (.const (vI (-1))) x1 (vI (-1))) w_8 fun c0A r8 =>
 xcond c0A
 (oP E (xCall (fC 125) [x0]) r8 fun c4v s8 =>
 oP E (eX c4v 0) s8 fun e3l r9 =>
 oP E (eX c4v 1) r9 fun i7G u7 =>
 R (Value.tuple #[e3l, i7G]) u7)
 (oP E (xBin .mul 2 (.tmp 25) (.tmp 26) x0 x1) r8 fun f7v u4 =>
 oP E (xBin .quo 2 (.tmp 28) (.tmp 29) f7v x1) u4 fun e4r z2 =>
 oP E (xBin .neq 2 (.tmp 30) (.tmp 31) e4r x0) z2 fun i7H B3 =>
 xcond i7H
 (R (Value.tuple #[(vI 0), (vI 1)]) B3)
 (R (Value.tuple #[f7v, (vI 0)]) B3))))
noncomputable def i7I : Code := Tryz.f128.body.getD .skip
def i7J : Hint := (sQ (.seq (sQ (.cond (sQ .none) .none)) (.seq (sQ (.cond (sQ .none) .none)) (.seq (sQ (.cond (sQ .none) .none)) (sQ (.seq (sQ (.cond (sQ .none) .none)) (sQ .none)))))))
theorem h1r (x0 x1 : Value) (w : World) (R : RT) (E : Pan) : f1J x0 x1 w R E = callX Tryz.prog [.tmp 4, .tmp 5] i7I i7J [x0, x1] w R E := by kernel_rfl
theorem h1s {x0 x1 : Value} (h : f1J x0 x1 w R E) : Cv Tryz.prog 128 #[x0, x1] w R E := by
 refine k3 (args := [x0, x1]) (c := i7I) (h := i7J) (rs := [.tmp 4, .tmp 5]) Tryz.func128 (by kernel_rfl) (by kernel_rfl) (nB (by kernel_rfl)) (by kernel_rfl) (by kernel_rfl) (by kernel_rfl) ?_
 rw [← h1r]
 exact h
def f1K (x0 x1 : Value) (w : World) (R : RT) (E : Pan) : Prop :=
 oP E (xCall (fC 157) [x0, x1]) w fun a8j w_2 =>
 oP E (xBin .neq 3 (.tmp 10) (.const (vI 0)) a8j (vI 0)) w_2 fun a4X w_4 =>
 xcond a4X
 (R (Value.tuple #[(vI 0), a8j]) w_4)
 (oP E (xBin .quo 2 (.tmp 13) (.tmp 14) x0 x1) w_4 fun d4W w_6 =>
 R (Value.tuple #[d4W, (vI 0)]) w_6)
noncomputable def i7K : Code := Tryz.f129.body.getD .skip
def i7L : Hint := (sQ (sQ (.seq (sQ (.cond (sQ .none) .none)) (sQ .none))))
theorem h1t (x0 x1 : Value) (w : World) (R : RT) (E : Pan) : f1K x0 x1 w R E = callX Tryz.prog [.tmp 4, .tmp 5] i7K i7L [x0, x1] w R E := by kernel_rfl
theorem h1u {x0 x1 : Value} (h : f1K x0 x1 w R E) : Cv Tryz.prog 129 #[x0, x1] w R E := by
 refine k3 (args := [x0, x1]) (c := i7K) (h := i7L) (rs := [.tmp 4, .tmp 5]) Tryz.func129 (by kernel_rfl) (by kernel_rfl) (nB (by kernel_rfl)) (by kernel_rfl) (by kernel_rfl) (by kernel_rfl) ?_
 rw [← h1t]
 exact h
def f1L (x0 x1 : Value) (w : World) (R : RT) (E : Pan) : Prop :=
 oP E (xCall (fC 157) [x0, x1]) w fun a8j w_2 =>
 oP E (xBin .neq 3 (.tmp 10) (.const (vI 0)) a8j (vI 0)) w_2 fun a4X w_4 =>
 xcond a4X
 (R (Value.tuple #[(vI 0), a8j]) w_4)
 (oP E (xBin .quo 2 (.tmp 14) (.tmp 15) x0 x1) w_4 fun j6H w_6 =>
 oP E (xBin .mul 2 (.tmp 16) (.tmp 17) j6H x1) w_6 fun j6I w_8 =>
 oP E (xBin .sub 2 (.tmp 13) (.tmp 18) x0 j6I) w_8 fun f1y p5 =>
 R (Value.tuple #[f1y, (vI 0)]) p5)
noncomputable def i7M : Code := Tryz.f130.body.getD .skip
def i7N : Hint := (sQ (sQ (.seq (sQ (.cond (sQ .none) .none)) (sQ .none))))
theorem h1v (x0 x1 : Value) (w : World) (R : RT) (E : Pan) : f1L x0 x1 w R E = callX Tryz.prog [.tmp 4, .tmp 5] i7M i7N [x0, x1] w R E := by kernel_rfl
theorem h1w {x0 x1 : Value} (h : f1L x0 x1 w R E) : Cv Tryz.prog 130 #[x0, x1] w R E := by
 refine k3 (args := [x0, x1]) (c := i7M) (h := i7N) (rs := [.tmp 4, .tmp 5]) Tryz.func130 (by kernel_rfl) (by kernel_rfl) (nB (by kernel_rfl)) (by kernel_rfl) (by kernel_rfl) (by kernel_rfl) ?_
 rw [← h1v]
 exact h
def f1M (x0 x1 : Value) (w : World) (R : RT) (E : Pan) : Prop :=
 oP E (xBin .and 200 (.tmp 14) (.const (Value.int .u64 4294967295)) x0 (Value.int .u64 4294967295)) w fun g4Z w_2 =>
 oP E (xBin .shr 200 (.tmp 16) (.const (Value.int .u64 32)) x0 (Value.int .u64 32)) w_2 fun g5a w_4 =>
 oP E (xBin .and 200 (.tmp 18) (.const (Value.int .u64 4294967295)) x1 (Value.int .u64 4294967295)) w_4 fun g5b w_6 =>
 oP E (xBin .shr 200 (.tmp 20) (.const (Value.int .u64 32)) x1 (Value.int .u64 32)) w_6 fun g5c w_8 =>
 oP E (xBin .mul 200 (.tmp 22) (.tmp 23) g4Z g5b) w_8 fun j6J p5 =>
 oP E (xBin .mul 200 (.tmp 25) (.tmp 26) g5a g5b) p5 fun i7O q8 =>
 oP E (xBin .shr 200 (.tmp 28) (.const (Value.int .u64 32)) j6J (Value.int .u64 32)) q8 fun e4u p6 =>
 oP E (xBin .add 200 (.tmp 27) (.tmp 29) i7O e4u) p6 fun d4V r8 =>
 oP E (xBin .and 200 (.tmp 31) (.const (Value.int .u64 4294967295)) d4V (Value.int .u64 4294967295)) r8 fun i7P s8 =>
 oP E (xBin .shr 200 (.tmp 33) (.const (Value.int .u64 32)) d4V (Value.int .u64 32)) s8 fun e3y r9 =>
 oP E (xBin .mul 200 (.tmp 36) (.tmp 37) g4Z g5c) r9 fun i7Q u7 =>
 oP E (xBin .add 200 (.tmp 35) (.tmp 38) i7P i7Q) u7 fun i7R u4 =>
 oP E (xBin .mul 200 (.tmp 40) (.tmp 41) g5a g5c) u4 fun i7S z2 =>
 oP E (xBin .add 200 (.tmp 42) (.tmp 43) i7S e3y) z2 fun i7T B3 =>
 oP E (xBin .shr 200 (.tmp 45) (.const (Value.int .u64 32)) i7R (Value.int .u64 32)) B3 fun i7U C4 =>
 oP E (xBin .add 200 (.tmp 44) (.tmp 46) i7T i7U) C4 fun i7V B6 =>
 oP E (xBin .mul 200 (.tmp 48) (.tmp 49) x0 x1) B6 fun i7W A6 =>
 R (Value.tuple #[i7V, i7W]) A6
noncomputable def i7X : Code := Tryz.f146.body.getD .skip
def i7Y : Hint := (sQ (sQ (sQ (sQ (sQ (sQ (sQ (sQ (sQ (sQ (sQ (sQ .none))))))))))))
theorem h1x (x0 x1 : Value) (w : World) (R : RT) (E : Pan) : f1M x0 x1 w R E = callX Tryz.prog [.tmp 4, .tmp 5] i7X i7Y [x0, x1] w R E := by kernel_rfl
theorem h1y {x0 x1 : Value} (h : f1M x0 x1 w R E) : Cv Tryz.prog 146 #[x0, x1] w R E := by
 refine k3 (args := [x0, x1]) (c := i7X) (h := i7Y) (rs := [.tmp 4, .tmp 5]) Tryz.func146 (by kernel_rfl) (by kernel_rfl) (nB (by kernel_rfl)) (by kernel_rfl) (by kernel_rfl) (by kernel_rfl) ?_
 rw [← h1x]
 exact h
def f1N (x0 : Value) (w : World) (R : RT) (E : Pan) : Prop :=
 oP E (xBin .lss 2 (.tmp 3) (.const (vI 0)) x0 (vI 0)) w fun b4l w_2 =>
 xcond b4l
 (oP E (xV (convert 2 200 x0)) w_2 fun c5F w_4 =>
 oP E (xV (Op.unary .neg c5F)) w_4 fun b2y w_6 =>
 R b2y w_6)
 (oP E (xV (convert 2 200 x0)) w_2 fun d1W w_8 =>
 R d1W w_8)
noncomputable def i7Z : Code := Tryz.f147.body.getD .skip
def i8a : Hint := (sQ (.seq (sQ (.cond (sQ .none) .none)) (sQ .none)))
theorem h1z (x0 : Value) (w : World) (R : RT) (E : Pan) : f1N x0 w R E = callX Tryz.prog [.tmp 2] i7Z i8a [x0] w R E := by kernel_rfl
theorem h1A {x0 : Value} (h : f1N x0 w R E) : Cv Tryz.prog 147 #[x0] w R E := by
 refine k3 (args := [x0]) (c := i7Z) (h := i8a) (rs := [.tmp 2]) Tryz.func147 (by kernel_rfl) (by kernel_rfl) (nB (by kernel_rfl)) (by kernel_rfl) (by kernel_rfl) (by kernel_rfl) ?_
 rw [← h1z]
 exact h
def f1O (x0 x1 : Value) (w : World) (R : RT) (E : Pan) : Prop :=
 oP E (xBin .eql 2 (.tmp 6) (.const (vI 0)) x1 (vI 0)) w fun a3X w_2 =>
 xcond a3X
 (R (vI 2) w_2)
 (oP E (xBin .eql 2 (.tmp 9) (.const (vI (-9223372036854775808))) x0 (vI (-9223372036854775808))) w_2 fun b5D w_4 =>
 oP E (gsem (asB b5D) true (xBin .eql 2 (.tmp 12) (.const (vI (-1))) (gval (asB b5D) true x1) (vI (-1)))) w_4 fun b5C w_6 =>
 oP E (xPick b5D b5C (vB false)) w_6 fun a3J w_8 =>
 xcond a3J
 (R (vI 1) w_8)
 (R (vI 0) w_8))
noncomputable def i8b : Code := Tryz.f148.body.getD .skip
def i8c : Hint := (sQ (.seq (.block (sQ (.cond (sQ .none) (sQ (.cond (sQ .none) .none))))) (sQ .none)))
theorem h1B (x0 x1 : Value) (w : World) (R : RT) (E : Pan) : f1O x0 x1 w R E = callX Tryz.prog [.tmp 4] i8b i8c [x0, x1] w R E := by kernel_rfl
theorem h1C {x0 x1 : Value} (h : f1O x0 x1 w R E) : Cv Tryz.prog 148 #[x0, x1] w R E := by
 refine k3 (args := [x0, x1]) (c := i8b) (h := i8c) (rs := [.tmp 4]) Tryz.func148 (by kernel_rfl) (by kernel_rfl) (nB (by kernel_rfl)) (by kernel_rfl) (by kernel_rfl) (by kernel_rfl) ?_
 rw [← h1B]
 exact h
def f1P (x0 x1 : Value) (w : World) (R : RT) (E : Pan) : Prop :=
 oP E (xBin .lss 2 (.tmp 5) (.tmp 6) x0 x1) w fun a3X w_2 =>
 R a3X w_2
noncomputable def i8d : Code := Tryz.f150.body.getD .skip
def i8e : Hint := (sQ (sQ .none))
theorem h1D (x0 x1 : Value) (w : World) (R : RT) (E : Pan) : f1P x0 x1 w R E = callX Tryz.prog [.tmp 4] i8d i8e [x0, x1] w R E := by kernel_rfl
theorem h1E {x0 x1 : Value} (h : f1P x0 x1 w R E) : Cv Tryz.prog 150 #[x0, x1] w R E := by
 refine k3 (args := [x0, x1]) (c := i8d) (h := i8e) (rs := [.tmp 4]) Tryz.func150 (by kernel_rfl) (by kernel_rfl) (nB (by kernel_rfl)) (by kernel_rfl) (by kernel_rfl) (by kernel_rfl) ?_
 rw [← h1D]
 exact h
def f1Q (x0 x1 : Value) (w : World) (R : RT) (E : Pan) : Prop :=
 oP E (xBin .leq 2 (.tmp 5) (.tmp 6) x0 x1) w fun a3X w_2 =>
 R a3X w_2
noncomputable def i8f : Code := Tryz.f151.body.getD .skip
def i8g : Hint := (sQ (sQ .none))
theorem h1F (x0 x1 : Value) (w : World) (R : RT) (E : Pan) : f1Q x0 x1 w R E = callX Tryz.prog [.tmp 4] i8f i8g [x0, x1] w R E := by kernel_rfl
theorem h1G {x0 x1 : Value} (h : f1Q x0 x1 w R E) : Cv Tryz.prog 151 #[x0, x1] w R E := by
 refine k3 (args := [x0, x1]) (c := i8f) (h := i8g) (rs := [.tmp 4]) Tryz.func151 (by kernel_rfl) (by kernel_rfl) (nB (by kernel_rfl)) (by kernel_rfl) (by kernel_rfl) (by kernel_rfl) ?_
 rw [← h1F]
 exact h
def f1R (x0 x1 : Value) (w : World) (R : RT) (E : Pan) : Prop :=
 oP E (xBin .eql 2 (.tmp 5) (.tmp 6) x0 x1) w fun a3X w_2 =>
 R a3X w_2
noncomputable def i8h : Code := Tryz.f152.body.getD .skip
def i8i : Hint := (sQ (sQ .none))
theorem h1H (x0 x1 : Value) (w : World) (R : RT) (E : Pan) : f1R x0 x1 w R E = callX Tryz.prog [.tmp 4] i8h i8i [x0, x1] w R E := by kernel_rfl
theorem h1I {x0 x1 : Value} (h : f1R x0 x1 w R E) : Cv Tryz.prog 152 #[x0, x1] w R E := by
 refine k3 (args := [x0, x1]) (c := i8h) (h := i8i) (rs := [.tmp 4]) Tryz.func152 (by kernel_rfl) (by kernel_rfl) (nB (by kernel_rfl)) (by kernel_rfl) (by kernel_rfl) (by kernel_rfl) ?_
 rw [← h1H]
 exact h
def f1S (x0 x1 : Value) (w : World) (R : RT) (E : Pan) : Prop :=
 oP E (xBin .neq 2 (.tmp 5) (.tmp 6) x0 x1) w fun a3X w_2 =>
 R a3X w_2
noncomputable def i8j : Code := Tryz.f153.body.getD .skip
def i8k : Hint := (sQ (sQ .none))
theorem h1J (x0 x1 : Value) (w : World) (R : RT) (E : Pan) : f1S x0 x1 w R E = callX Tryz.prog [.tmp 4] i8j i8k [x0, x1] w R E := by kernel_rfl
theorem h1K {x0 x1 : Value} (h : f1S x0 x1 w R E) : Cv Tryz.prog 153 #[x0, x1] w R E := by
 refine k3 (args := [x0, x1]) (c := i8j) (h := i8k) (rs := [.tmp 4]) Tryz.func153 (by kernel_rfl) (by kernel_rfl) (nB (by kernel_rfl)) (by kernel_rfl) (by kernel_rfl) (by kernel_rfl) ?_
 rw [← h1J]
 exact h
def f1T (x0 x1 : Value) (w : World) (R : RT) (E : Pan) : Prop :=
 oP E (xBin .gtr 2 (.tmp 5) (.tmp 6) x0 x1) w fun a3X w_2 =>
 R a3X w_2
noncomputable def i8l : Code := Tryz.f154.body.getD .skip
def i8m : Hint := (sQ (sQ .none))
theorem h1L (x0 x1 : Value) (w : World) (R : RT) (E : Pan) : f1T x0 x1 w R E = callX Tryz.prog [.tmp 4] i8l i8m [x0, x1] w R E := by kernel_rfl
theorem h1M {x0 x1 : Value} (h : f1T x0 x1 w R E) : Cv Tryz.prog 154 #[x0, x1] w R E := by
 refine k3 (args := [x0, x1]) (c := i8l) (h := i8m) (rs := [.tmp 4]) Tryz.func154 (by kernel_rfl) (by kernel_rfl) (nB (by kernel_rfl)) (by kernel_rfl) (by kernel_rfl) (by kernel_rfl) ?_
 rw [← h1L]
 exact h
def f1U (x0 x1 : Value) (w : World) (R : RT) (E : Pan) : Prop :=
 oP E (xBin .geq 2 (.tmp 5) (.tmp 6) x0 x1) w fun a3X w_2 =>
 R a3X w_2
noncomputable def i8n : Code := Tryz.f155.body.getD .skip
def i8o : Hint := (sQ (sQ .none))
theorem h1N (x0 x1 : Value) (w : World) (R : RT) (E : Pan) : f1U x0 x1 w R E = callX Tryz.prog [.tmp 4] i8n i8o [x0, x1] w R E := by kernel_rfl
theorem h1O {x0 x1 : Value} (h : f1U x0 x1 w R E) : Cv Tryz.prog 155 #[x0, x1] w R E := by
 refine k3 (args := [x0, x1]) (c := i8n) (h := i8o) (rs := [.tmp 4]) Tryz.func155 (by kernel_rfl) (by kernel_rfl) (nB (by kernel_rfl)) (by kernel_rfl) (by kernel_rfl) (by kernel_rfl) ?_
 rw [← h1N]
 exact h
def f1V (x0 x1 : Value) (w : World) (R : RT) (E : Pan) : Prop :=
 oP E (xBin .eql 2 (.tmp 5) (.const (vI 0)) x1 (vI 0)) w fun b3F w_2 =>
 xcond b3F
 (R (vI 2) w_2)
 (oP E (xBin .eql 2 (.tmp 7) (.const (vI (-9223372036854775808))) x0 (vI (-9223372036854775808))) w_2 fun b5E w_4 =>
 oP E (gsem (asB b5E) true (xBin .eql 2 (.tmp 10) (.const (vI (-1))) (gval (asB b5E) true x1) (vI (-1)))) w_4 fun a4T w_6 =>
 oP E (xPick b5E a4T (vB false)) w_6 fun a1J w_8 =>
 xcond a1J
 (R (vI 1) w_8)
 (R (vI 0) w_8))
noncomputable def i8p : Code := Tryz.f157.body.getD .skip
def i8q : Hint := (sQ (.seq (sQ (.cond (sQ .none) .none)) (.seq (sQ (.cond (sQ .none) .none)) (sQ .none))))
theorem h1P (x0 x1 : Value) (w : World) (R : RT) (E : Pan) : f1V x0 x1 w R E = callX Tryz.prog [.tmp 4] i8p i8q [x0, x1] w R E := by kernel_rfl
theorem h1Q {x0 x1 : Value} (h : f1V x0 x1 w R E) : Cv Tryz.prog 157 #[x0, x1] w R E := by
 refine k3 (args := [x0, x1]) (c := i8p) (h := i8q) (rs := [.tmp 4]) Tryz.func157 (by kernel_rfl) (by kernel_rfl) (nB (by kernel_rfl)) (by kernel_rfl) (by kernel_rfl) (by kernel_rfl) ?_
 rw [← h1P]
 exact h
end Go.Proofs.YtnhkdkcgdcgmdaaGreatDoor
