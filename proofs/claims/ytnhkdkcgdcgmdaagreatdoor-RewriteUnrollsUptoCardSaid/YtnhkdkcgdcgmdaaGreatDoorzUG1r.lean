/- The second reading of some of the program's functions, printed by gen2.py off the code; each is held against the code by the kernel. -/
import Derived.Test.YtnhkdkcgdcgmdaaGreatDoorProg
import Derived.Test.YtnhkdkcgdcgmdaaGreatDoorzUK0
import Derived.KernelRfl
import Derived.Test.YtnhkdkcgdcgmdaaGreatDoorzUGz
namespace Go.Proofs.YtnhkdkcgdcgmdaaGreatDoor
open Go.RowKit
set_option maxRecDepth 100000
variable {w : World} {R : RT} {E : Pan}
def F73 (x0 x1 x2 : Value) (w : World) (R : RT) (E : Pan) : Prop :=
 oP E (xBin .lss 3 (.tmp 7) (.const (vI 1)) x0 (vI 1)) w fun d2Z w_2 =>
 oP E (gsem (asB d2Z) false (xBin .gtr 3 (.tmp 10) (.const (vI 6)) (gval (asB d2Z) false x0) (vI 6))) w_2 fun b4o w_4 =>
 oP E (xPick d2Z (vB true) b4o) w_4 fun c2Q w_6 =>
 xcond c2Q
 (R (vB false) w_6)
 (oP E (xCall (fC 118) []) w_6 fun b4m w_8 =>
 oP E (xV (Instr.index 177 b4m x0)) w_8 fun d0O o9 =>
 oP E (xCall d0O [x1, x2]) o9 fun d6u p8 =>
 R d6u p8)
noncomputable def c73 : Code := Tryz.f73.body.getD .skip
def h73 : Hint := (sQ (.seq (sQ (.cond (sQ .none) .none)) (sQ .none)))
theorem h8U (x0 x1 x2 : Value) (w : World) (R : RT) (E : Pan) : F73 x0 x1 x2 w R E = callX Tryz.prog [.tmp 6] c73 h73 [x0, x1, x2] w R E := by kernel_rfl
theorem h8V {x0 x1 x2 : Value} (h : F73 x0 x1 x2 w R E) : Cv Tryz.prog 73 #[x0, x1, x2] w R E := by
 refine i8 (args := [x0, x1, x2]) (c := c73) (h := h73) (rs := [.tmp 6]) Tryz.func73 (by kernel_rfl) (by kernel_rfl) (nB (by kernel_rfl)) (by kernel_rfl) (by kernel_rfl) (by kernel_rfl) ?_
 rw [← h8U]
 exact h
def e7l (x0 : Value) (w : World) (R : RT) (E : Pan) : Prop :=
 oP E (xCall (fC 114) [(vI 0), x0]) w fun d7B w_2 =>
 oP E (eX d7B 0) w_2 fun b6U w_4 =>
 oP E (eX d7B 1) w_4 fun b5z w_6 =>
 R (Value.tuple #[b6U, b5z]) w_6
noncomputable def h8W : Code := Tryz.f112.body.getD .skip
def h8X : Hint := (sQ (sQ .none))
theorem g4c (x0 : Value) (w : World) (R : RT) (E : Pan) : e7l x0 w R E = callX Tryz.prog [.tmp 2, .tmp 3] h8W h8X [x0] w R E := by kernel_rfl
theorem g4d {x0 : Value} (h : e7l x0 w R E) : Cv Tryz.prog 112 #[x0] w R E := by
 refine i8 (args := [x0]) (c := h8W) (h := h8X) (rs := [.tmp 2, .tmp 3]) Tryz.func112 (by kernel_rfl) (by kernel_rfl) (nB (by kernel_rfl)) (by kernel_rfl) (by kernel_rfl) (by kernel_rfl) ?_
 rw [← g4c]
 exact h
def e7m (x0 x1 : Value) (w : World) (R : RT) (E : Pan) : Prop :=
 oP E (xBin .add 2 (.tmp 7) (.tmp 8) x0 x1) w fun b2F w_2 =>
 oP E (xBin .lss 2 (.tmp 10) (.const (vI 0)) x0 (vI 0)) w_2 fun b4o w_4 =>
 oP E (xBin .lss 2 (.tmp 12) (.const (vI 0)) x1 (vI 0)) w_4 fun c2P w_6 =>
 oP E (xBin .eql 4 (.tmp 11) (.tmp 13) b4o c2P) w_6 fun a8N w_8 =>
 oP E (gsem (asB a8N) true (xBin .lss 2 (.tmp 16) (.const (vI 0)) (gval (asB a8N) true b2F) (vI 0))) w_8 fun d0v o9 =>
 oP E (gsem (asB a8N) true (xBin .lss 2 (.tmp 18) (.const (vI 0)) (gval (asB a8N) true x0) (vI 0))) o9 fun c6h p8 =>
 oP E (gsem (asB a8N) true (xBin .neq 4 (.tmp 17) (.tmp 19) d0v c6h)) p8 fun c4W p6 =>
 oP E (xPick a8N c4W (vB false)) p6 fun e0u q8 =>
 xcond e0u
 (R (Value.tuple #[(vI 0), (vI 1)]) q8)
 (R (Value.tuple #[b2F, (vI 0)]) q8)
noncomputable def h8Y : Code := Tryz.f113.body.getD .skip
def h8Z : Hint := (sQ (sQ (.seq (sQ (.cond (sQ .none) .none)) (sQ .none))))
theorem g4e (x0 x1 : Value) (w : World) (R : RT) (E : Pan) : e7m x0 x1 w R E = callX Tryz.prog [.tmp 4, .tmp 5] h8Y h8Z [x0, x1] w R E := by kernel_rfl
theorem g4f {x0 x1 : Value} (h : e7m x0 x1 w R E) : Cv Tryz.prog 113 #[x0, x1] w R E := by
 refine i8 (args := [x0, x1]) (c := h8Y) (h := h8Z) (rs := [.tmp 4, .tmp 5]) Tryz.func113 (by kernel_rfl) (by kernel_rfl) (nB (by kernel_rfl)) (by kernel_rfl) (by kernel_rfl) (by kernel_rfl) ?_
 rw [← g4e]
 exact h
def e7n (x0 x1 : Value) (w : World) (R : RT) (E : Pan) : Prop :=
 oP E (xBin .sub 2 (.tmp 7) (.tmp 8) x0 x1) w fun b2F w_2 =>
 oP E (xBin .lss 2 (.tmp 10) (.const (vI 0)) x0 (vI 0)) w_2 fun b4o w_4 =>
 oP E (xBin .lss 2 (.tmp 12) (.const (vI 0)) x1 (vI 0)) w_4 fun c2P w_6 =>
 oP E (xBin .neq 4 (.tmp 11) (.tmp 13) b4o c2P) w_6 fun a8N w_8 =>
 oP E (gsem (asB a8N) true (xBin .lss 2 (.tmp 16) (.const (vI 0)) (gval (asB a8N) true b2F) (vI 0))) w_8 fun d0v o9 =>
 oP E (gsem (asB a8N) true (xBin .lss 2 (.tmp 18) (.const (vI 0)) (gval (asB a8N) true x0) (vI 0))) o9 fun c6h p8 =>
 oP E (gsem (asB a8N) true (xBin .neq 4 (.tmp 17) (.tmp 19) d0v c6h)) p8 fun c4W p6 =>
 oP E (xPick a8N c4W (vB false)) p6 fun e0u q8 =>
 xcond e0u
 (R (Value.tuple #[(vI 0), (vI 1)]) q8)
 (R (Value.tuple #[b2F, (vI 0)]) q8)
noncomputable def h9a : Code := Tryz.f114.body.getD .skip
def h9b : Hint := (sQ (sQ (.seq (sQ (.cond (sQ .none) .none)) (sQ .none))))
theorem g4g (x0 x1 : Value) (w : World) (R : RT) (E : Pan) : e7n x0 x1 w R E = callX Tryz.prog [.tmp 4, .tmp 5] h9a h9b [x0, x1] w R E := by kernel_rfl
theorem g4h {x0 x1 : Value} (h : e7n x0 x1 w R E) : Cv Tryz.prog 114 #[x0, x1] w R E := by
 refine i8 (args := [x0, x1]) (c := h9a) (h := h9b) (rs := [.tmp 4, .tmp 5]) Tryz.func114 (by kernel_rfl) (by kernel_rfl) (nB (by kernel_rfl)) (by kernel_rfl) (by kernel_rfl) (by kernel_rfl) ?_
 rw [← g4g]
 exact h
def d3O (x0 x1 x6 x7 x8 : Value) (w : World) (R : RT) (E : Pan) : Prop :=
 ∀ _τ : Fr, (oP E (xBin .neq 200 (.tmp 24) (.const (Value.int .u64 0)) x6 (Value.int .u64 0)) w fun c2g p8 =>
 oP E (gsem (asB c2g) false (xBin .gtr 200 (.tmp 27) (.tmp 28) (gval (asB c2g) false x7) (gval (asB c2g) false x8))) p8 fun c6t p6 =>
 oP E (xPick c2g (vB true) c6t) p6 fun c2h q8 =>
 xcond c2h
 (R (Value.tuple #[(vI 0), (vI 1)]) q8)
 (oP E (xBin .mul 2 (.tmp 31) (.tmp 32) x0 x1) q8 fun c6k w5 =>
 R (Value.tuple #[c6k, (vI 0)]) w5))
def e7o (x0 x1 : Value) (w : World) (R : RT) (E : Pan) : Prop :=
 oP E (xCall (fC 147) [x0]) w fun e3P w_2 =>
 oP E (xCall (fC 147) [x1]) w_2 fun c2I w_4 =>
 oP E (xCall (fC 146) [e3P, c2I]) w_4 fun b6i w_6 =>
 oP E (eX b6i 0) w_6 fun d1y w_8 =>
 oP E (eX b6i 1) w_8 fun i8C o9 =>
 xcut (fun a8s t8 => d3O x0 x1 d1y i8C (nth a8s 0) t8 R E) fun j1 =>
 oP E (xBin .lss 2 (.tmp 17) (.const (vI 0)) x0 (vI 0)) o9 fun c6u w9 =>
 oP E (xBin .lss 2 (.tmp 19) (.const (vI 0)) x1 (vI 0)) w9 fun a4R v2 =>
 oP E (xBin .neq 4 (.tmp 18) (.tmp 20) c6u a4R) v2 fun d7j y8 =>
 xcond d7j
 (oP E (xBin .add 200 (.tmp 22) (.const (Value.int .u64 1)) (Value.int .u64 9223372036854775807) (Value.int .u64 1)) y8 fun e0v B0 =>
 j1 [e0v] B0)
 (j1 [(Value.int .u64 9223372036854775807)] y8)
noncomputable def h9c : Code := Tryz.f115.body.getD .skip
def h9d : Hint := (sQ (sQ (sQ (.cut [8] (sQ (.cond .none .none)) (.seq (sQ (.cond (sQ .none) .none)) (sQ .none))))))
theorem g4i (x0 x1 : Value) (w : World) (R : RT) (E : Pan) : e7o x0 x1 w R E = callX Tryz.prog [.tmp 4, .tmp 5] h9c h9d [x0, x1] w R E := by kernel_rfl
theorem g4j {x0 x1 : Value} (h : e7o x0 x1 w R E) : Cv Tryz.prog 115 #[x0, x1] w R E := by
 refine i8 (args := [x0, x1]) (c := h9c) (h := h9d) (rs := [.tmp 4, .tmp 5]) Tryz.func115 (by kernel_rfl) (by kernel_rfl) (nB (by kernel_rfl)) (by kernel_rfl) (by kernel_rfl) (by kernel_rfl) ?_
 rw [← g4i]
 exact h
def e7p (x0 x1 : Value) (w : World) (R : RT) (E : Pan) : Prop :=
 oP E (xCall (fC 148) [x0, x1]) w fun b2F w_2 =>
 oP E (xBin .neq 3 (.tmp 10) (.const (vI 0)) b2F (vI 0)) w_2 fun b4o w_4 =>
 xcond b4o
 (R (Value.tuple #[(vI 0), b2F]) w_4)
 (oP E (xBin .quo 2 (.tmp 13) (.tmp 14) x0 x1) w_4 fun e7q w_6 =>
 R (Value.tuple #[e7q, (vI 0)]) w_6)
noncomputable def h9e : Code := Tryz.f116.body.getD .skip
def h9f : Hint := (sQ (.seq (sQ (sQ (.cond (sQ .none) .none))) (sQ .none)))
theorem g4k (x0 x1 : Value) (w : World) (R : RT) (E : Pan) : e7p x0 x1 w R E = callX Tryz.prog [.tmp 4, .tmp 5] h9e h9f [x0, x1] w R E := by kernel_rfl
theorem g4l {x0 x1 : Value} (h : e7p x0 x1 w R E) : Cv Tryz.prog 116 #[x0, x1] w R E := by
 refine i8 (args := [x0, x1]) (c := h9e) (h := h9f) (rs := [.tmp 4, .tmp 5]) Tryz.func116 (by kernel_rfl) (by kernel_rfl) (nB (by kernel_rfl)) (by kernel_rfl) (by kernel_rfl) (by kernel_rfl) ?_
 rw [← g4k]
 exact h
def e7r (x0 x1 : Value) (w : World) (R : RT) (E : Pan) : Prop :=
 oP E (xCall (fC 148) [x0, x1]) w fun b2F w_2 =>
 oP E (xBin .neq 3 (.tmp 10) (.const (vI 0)) b2F (vI 0)) w_2 fun b4o w_4 =>
 xcond b4o
 (R (Value.tuple #[(vI 0), b2F]) w_4)
 (oP E (xBin .rem 2 (.tmp 13) (.tmp 14) x0 x1) w_4 fun e7q w_6 =>
 R (Value.tuple #[e7q, (vI 0)]) w_6)
noncomputable def h9g : Code := Tryz.f117.body.getD .skip
def h9h : Hint := (sQ (.seq (sQ (sQ (.cond (sQ .none) .none))) (sQ .none)))
theorem g4m (x0 x1 : Value) (w : World) (R : RT) (E : Pan) : e7r x0 x1 w R E = callX Tryz.prog [.tmp 4, .tmp 5] h9g h9h [x0, x1] w R E := by kernel_rfl
theorem g4n {x0 x1 : Value} (h : e7r x0 x1 w R E) : Cv Tryz.prog 117 #[x0, x1] w R E := by
 refine i8 (args := [x0, x1]) (c := h9g) (h := h9h) (rs := [.tmp 4, .tmp 5]) Tryz.func117 (by kernel_rfl) (by kernel_rfl) (nB (by kernel_rfl)) (by kernel_rfl) (by kernel_rfl) (by kernel_rfl) ?_
 rw [← g4m]
 exact h
def e7s (w : World) (R : RT) (E : Pan) : Prop :=
 oP E (xV (Instr.alloc 177 true (.tuple #[]))) w fun h9i w_2 =>
 oP E (xV (Instr.build 177 #[(0, (fC 149)), (1, (fC 150)), (2, (fC 151)), (3, (fC 152)), (4, (fC 153)), (5, (fC 154)), (6, (fC 155))])) w_2 fun j4B w_4 =>
 oP E (sA 177 h9i j4B) w_4 fun _z_5 w_6 =>
 xcell Tryz.prog 177 h9i w_6 fun r_7 =>
 R r_7 w_6
noncomputable def h9j : Code := Tryz.f118.body.getD .skip
def h9k : Hint := (sQ (sQ .none))
theorem g4o (w : World) (R : RT) (E : Pan) : e7s  w R E = callX Tryz.prog [.cell 0 177] h9j h9k [] w R E := by kernel_rfl
theorem g4p (h : e7s  w R E) : Cv Tryz.prog 118 #[] w R E := by
 refine i8 (args := []) (c := h9j) (h := h9k) (rs := [.cell 0 177]) Tryz.func118 (by kernel_rfl) (by kernel_rfl) (Nat.zero_le _) (by kernel_rfl) (by kernel_rfl) (by kernel_rfl) ?_
 rw [← g4o]
 exact h
def e7t (x0 x1 : Value) (w : World) (R : RT) (E : Pan) : Prop :=
 oP E (xBin .and 200 (.tmp 14) (.const (Value.int .u64 4294967295)) x0 (Value.int .u64 4294967295)) w fun f8E w_2 =>
 oP E (xBin .shr 200 (.tmp 16) (.const (Value.int .u64 32)) x0 (Value.int .u64 32)) w_2 fun f8F w_4 =>
 oP E (xBin .and 200 (.tmp 18) (.const (Value.int .u64 4294967295)) x1 (Value.int .u64 4294967295)) w_4 fun f8G w_6 =>
 oP E (xBin .shr 200 (.tmp 20) (.const (Value.int .u64 32)) x1 (Value.int .u64 32)) w_6 fun f8H w_8 =>
 oP E (xBin .mul 200 (.tmp 22) (.tmp 23) f8E f8G) w_8 fun e7u o9 =>
 oP E (xBin .mul 200 (.tmp 25) (.tmp 26) f8F f8G) o9 fun h9l p8 =>
 oP E (xBin .shr 200 (.tmp 28) (.const (Value.int .u64 32)) e7u (Value.int .u64 32)) p8 fun c6t p6 =>
 oP E (xBin .add 200 (.tmp 27) (.tmp 29) h9l c6t) p6 fun c2h q8 =>
 oP E (xBin .and 200 (.tmp 31) (.const (Value.int .u64 4294967295)) c2h (Value.int .u64 4294967295)) q8 fun e0w w5 =>
 oP E (xBin .shr 200 (.tmp 33) (.const (Value.int .u64 32)) c2h (Value.int .u64 32)) w5 fun d9I t8 =>
 oP E (xBin .mul 200 (.tmp 36) (.tmp 37) f8E f8H) t8 fun h9m w9 =>
 oP E (xBin .add 200 (.tmp 35) (.tmp 38) e0w h9m) w9 fun h9n v2 =>
 oP E (xBin .mul 200 (.tmp 40) (.tmp 41) f8F f8H) v2 fun h9o y8 =>
 oP E (xBin .add 200 (.tmp 42) (.tmp 43) h9o d9I) y8 fun h9p B0 =>
 oP E (xBin .shr 200 (.tmp 45) (.const (Value.int .u64 32)) h9n (Value.int .u64 32)) B0 fun h9q C0 =>
 oP E (xBin .add 200 (.tmp 44) (.tmp 46) h9p h9q) C0 fun h9r C3 =>
 oP E (xBin .mul 200 (.tmp 48) (.tmp 49) x0 x1) C3 fun h9s A6 =>
 R (Value.tuple #[h9r, h9s]) A6
noncomputable def h9t : Code := Tryz.f146.body.getD .skip
def h9u : Hint := (sQ (sQ (sQ (sQ (sQ (sQ (sQ (sQ (sQ (sQ (sQ (sQ .none))))))))))))
theorem g4q (x0 x1 : Value) (w : World) (R : RT) (E : Pan) : e7t x0 x1 w R E = callX Tryz.prog [.tmp 4, .tmp 5] h9t h9u [x0, x1] w R E := by kernel_rfl
theorem g4r {x0 x1 : Value} (h : e7t x0 x1 w R E) : Cv Tryz.prog 146 #[x0, x1] w R E := by
 refine i8 (args := [x0, x1]) (c := h9t) (h := h9u) (rs := [.tmp 4, .tmp 5]) Tryz.func146 (by kernel_rfl) (by kernel_rfl) (nB (by kernel_rfl)) (by kernel_rfl) (by kernel_rfl) (by kernel_rfl) ?_
 rw [← g4q]
 exact h
def e7v (x0 : Value) (w : World) (R : RT) (E : Pan) : Prop :=
 oP E (xBin .lss 2 (.tmp 3) (.const (vI 0)) x0 (vI 0)) w fun b0W w_2 =>
 xcond b0W
 (oP E (xV (convert 2 200 x0)) w_2 fun b6U w_4 =>
 oP E (xV (Op.unary .neg b6U)) w_4 fun b5z w_6 =>
 R b5z w_6)
 (oP E (xV (convert 2 200 x0)) w_2 fun c8J w_8 =>
 R c8J w_8)
noncomputable def h9v : Code := Tryz.f147.body.getD .skip
def h9w : Hint := (sQ (.seq (sQ (.cond (sQ .none) .none)) (sQ .none)))
theorem g4s (x0 : Value) (w : World) (R : RT) (E : Pan) : e7v x0 w R E = callX Tryz.prog [.tmp 2] h9v h9w [x0] w R E := by kernel_rfl
theorem g4t {x0 : Value} (h : e7v x0 w R E) : Cv Tryz.prog 147 #[x0] w R E := by
 refine i8 (args := [x0]) (c := h9v) (h := h9w) (rs := [.tmp 2]) Tryz.func147 (by kernel_rfl) (by kernel_rfl) (nB (by kernel_rfl)) (by kernel_rfl) (by kernel_rfl) (by kernel_rfl) ?_
 rw [← g4s]
 exact h
def e7w (x0 x1 : Value) (w : World) (R : RT) (E : Pan) : Prop :=
 oP E (xBin .eql 2 (.tmp 6) (.const (vI 0)) x1 (vI 0)) w fun b0d w_2 =>
 xcond b0d
 (R (vI 2) w_2)
 (oP E (xBin .eql 2 (.tmp 9) (.const (vI (-9223372036854775808))) x0 (vI (-9223372036854775808))) w_2 fun b4n w_4 =>
 oP E (gsem (asB b4n) true (xBin .eql 2 (.tmp 12) (.const (vI (-1))) (gval (asB b4n) true x1) (vI (-1)))) w_4 fun c2P w_6 =>
 oP E (xPick b4n c2P (vB false)) w_6 fun a8N w_8 =>
 xcond a8N
 (R (vI 1) w_8)
 (R (vI 0) w_8))
noncomputable def h9x : Code := Tryz.f148.body.getD .skip
def h9y : Hint := (sQ (.seq (.block (sQ (.cond (sQ .none) (sQ (.cond (sQ .none) .none))))) (sQ .none)))
theorem g4u (x0 x1 : Value) (w : World) (R : RT) (E : Pan) : e7w x0 x1 w R E = callX Tryz.prog [.tmp 4] h9x h9y [x0, x1] w R E := by kernel_rfl
theorem g4v {x0 x1 : Value} (h : e7w x0 x1 w R E) : Cv Tryz.prog 148 #[x0, x1] w R E := by
 refine i8 (args := [x0, x1]) (c := h9x) (h := h9y) (rs := [.tmp 4]) Tryz.func148 (by kernel_rfl) (by kernel_rfl) (nB (by kernel_rfl)) (by kernel_rfl) (by kernel_rfl) (by kernel_rfl) ?_
 rw [← g4u]
 exact h
def e7x (x0 x1 : Value) (w : World) (R : RT) (E : Pan) : Prop :=
 oP E (xBin .lss 2 (.tmp 5) (.tmp 6) x0 x1) w fun b0d w_2 =>
 R b0d w_2
noncomputable def h9z : Code := Tryz.f150.body.getD .skip
def h9A : Hint := (sQ (sQ .none))
theorem g4w (x0 x1 : Value) (w : World) (R : RT) (E : Pan) : e7x x0 x1 w R E = callX Tryz.prog [.tmp 4] h9z h9A [x0, x1] w R E := by kernel_rfl
theorem g4x {x0 x1 : Value} (h : e7x x0 x1 w R E) : Cv Tryz.prog 150 #[x0, x1] w R E := by
 refine i8 (args := [x0, x1]) (c := h9z) (h := h9A) (rs := [.tmp 4]) Tryz.func150 (by kernel_rfl) (by kernel_rfl) (nB (by kernel_rfl)) (by kernel_rfl) (by kernel_rfl) (by kernel_rfl) ?_
 rw [← g4w]
 exact h
def e7y (x0 x1 : Value) (w : World) (R : RT) (E : Pan) : Prop :=
 oP E (xBin .leq 2 (.tmp 5) (.tmp 6) x0 x1) w fun b0d w_2 =>
 R b0d w_2
noncomputable def h9B : Code := Tryz.f151.body.getD .skip
def h9C : Hint := (sQ (sQ .none))
theorem g4y (x0 x1 : Value) (w : World) (R : RT) (E : Pan) : e7y x0 x1 w R E = callX Tryz.prog [.tmp 4] h9B h9C [x0, x1] w R E := by kernel_rfl
theorem g4z {x0 x1 : Value} (h : e7y x0 x1 w R E) : Cv Tryz.prog 151 #[x0, x1] w R E := by
 refine i8 (args := [x0, x1]) (c := h9B) (h := h9C) (rs := [.tmp 4]) Tryz.func151 (by kernel_rfl) (by kernel_rfl) (nB (by kernel_rfl)) (by kernel_rfl) (by kernel_rfl) (by kernel_rfl) ?_
 rw [← g4y]
 exact h
def e7z (x0 x1 : Value) (w : World) (R : RT) (E : Pan) : Prop :=
 oP E (xBin .eql 2 (.tmp 5) (.tmp 6) x0 x1) w fun b0d w_2 =>
 R b0d w_2
noncomputable def h9D : Code := Tryz.f152.body.getD .skip
def h9E : Hint := (sQ (sQ .none))
theorem g4A (x0 x1 : Value) (w : World) (R : RT) (E : Pan) : e7z x0 x1 w R E = callX Tryz.prog [.tmp 4] h9D h9E [x0, x1] w R E := by kernel_rfl
theorem g4B {x0 x1 : Value} (h : e7z x0 x1 w R E) : Cv Tryz.prog 152 #[x0, x1] w R E := by
 refine i8 (args := [x0, x1]) (c := h9D) (h := h9E) (rs := [.tmp 4]) Tryz.func152 (by kernel_rfl) (by kernel_rfl) (nB (by kernel_rfl)) (by kernel_rfl) (by kernel_rfl) (by kernel_rfl) ?_
 rw [← g4A]
 exact h
def e7A (x0 x1 : Value) (w : World) (R : RT) (E : Pan) : Prop :=
 oP E (xBin .neq 2 (.tmp 5) (.tmp 6) x0 x1) w fun b0d w_2 =>
 R b0d w_2
noncomputable def h9F : Code := Tryz.f153.body.getD .skip
def h9G : Hint := (sQ (sQ .none))
theorem g4C (x0 x1 : Value) (w : World) (R : RT) (E : Pan) : e7A x0 x1 w R E = callX Tryz.prog [.tmp 4] h9F h9G [x0, x1] w R E := by kernel_rfl
theorem g4D {x0 x1 : Value} (h : e7A x0 x1 w R E) : Cv Tryz.prog 153 #[x0, x1] w R E := by
 refine i8 (args := [x0, x1]) (c := h9F) (h := h9G) (rs := [.tmp 4]) Tryz.func153 (by kernel_rfl) (by kernel_rfl) (nB (by kernel_rfl)) (by kernel_rfl) (by kernel_rfl) (by kernel_rfl) ?_
 rw [← g4C]
 exact h
def e7B (x0 x1 : Value) (w : World) (R : RT) (E : Pan) : Prop :=
 oP E (xBin .gtr 2 (.tmp 5) (.tmp 6) x0 x1) w fun b0d w_2 =>
 R b0d w_2
noncomputable def h9H : Code := Tryz.f154.body.getD .skip
def h9I : Hint := (sQ (sQ .none))
theorem g4E (x0 x1 : Value) (w : World) (R : RT) (E : Pan) : e7B x0 x1 w R E = callX Tryz.prog [.tmp 4] h9H h9I [x0, x1] w R E := by kernel_rfl
theorem g4F {x0 x1 : Value} (h : e7B x0 x1 w R E) : Cv Tryz.prog 154 #[x0, x1] w R E := by
 refine i8 (args := [x0, x1]) (c := h9H) (h := h9I) (rs := [.tmp 4]) Tryz.func154 (by kernel_rfl) (by kernel_rfl) (nB (by kernel_rfl)) (by kernel_rfl) (by kernel_rfl) (by kernel_rfl) ?_
 rw [← g4E]
 exact h
def e7C (x0 x1 : Value) (w : World) (R : RT) (E : Pan) : Prop :=
 oP E (xBin .geq 2 (.tmp 5) (.tmp 6) x0 x1) w fun b0d w_2 =>
 R b0d w_2
noncomputable def h9J : Code := Tryz.f155.body.getD .skip
def h9K : Hint := (sQ (sQ .none))
theorem g4G (x0 x1 : Value) (w : World) (R : RT) (E : Pan) : e7C x0 x1 w R E = callX Tryz.prog [.tmp 4] h9J h9K [x0, x1] w R E := by kernel_rfl
theorem g4H {x0 x1 : Value} (h : e7C x0 x1 w R E) : Cv Tryz.prog 155 #[x0, x1] w R E := by
 refine i8 (args := [x0, x1]) (c := h9J) (h := h9K) (rs := [.tmp 4]) Tryz.func155 (by kernel_rfl) (by kernel_rfl) (nB (by kernel_rfl)) (by kernel_rfl) (by kernel_rfl) (by kernel_rfl) ?_
 rw [← g4G]
 exact h
end Go.Proofs.YtnhkdkcgdcgmdaaGreatDoor
