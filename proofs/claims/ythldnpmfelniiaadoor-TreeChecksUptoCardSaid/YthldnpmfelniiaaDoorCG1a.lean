/- The second reading of some of the program's functions, printed by gen2.py off the code; each is held against the code by the kernel. -/
import Derived.Test.YthldnpmfelniiaaDoorProg
import Derived.Test.YthldnpmfelniiaaDoorCK0
import Derived.KernelRfl
namespace Go.Proofs.YthldnpmfelniiaaDoor
open Go.RowKit
set_option maxRecDepth 100000
def F3 (x0 x1 : Value) (w : World) (R : Value → World → Prop) (E : Pan) : Prop :=
 opK Tryd.prog E (xV (Instr.box 25 x0)) w fun V4 w_2 =>
 opK Tryd.prog E (xV (Instr.box 25 x1)) w_2 fun F7 w_4 =>
 dX w_4 fun w_5 =>
 opK Tryd.prog E (xCall (Value.func (.func 14) #[] #[]) []) w_5 fun a6N w_7 =>
 keepX [] w_5 w_7 (qL Tryd.prog w_7 (blk V4) (gsem (asB a6N) true (xV (Instr.loadAt 25 V4))) fun d4N =>
 qL Tryd.prog w_7 (blk F7) (gsem (asB a6N) true (xV (Instr.loadAt 25 F7))) fun b0M =>
 qL Tryd.prog w_7 (blk V4) (gsem (asB a6N) true (xV (Instr.loadAt 25 V4))) fun e3z =>
 qL Tryd.prog w_7 (blk F7) (gsem (asB a6N) true (xV (Instr.loadAt 25 F7))) fun b0N =>
 opK Tryd.prog E (gsem (asB a6N) true (xCall (Value.func (.func 15) #[] #[]) [d4N, b0M])) w_7 fun c8O V5 =>
 keepX [(blk F7), (blk V4)] w_7 V5 (opK Tryd.prog E (gsem (asB a6N) true (xCall (Value.func (.func 16) #[] #[]) [e3z, b0N])) V5 fun e3A a1C =>
 keepX [] V5 a1C (qP Tryd.prog (gsem (asB a6N) true (xBin .eql 4 (.tmp 9) (.tmp 12) c8O e3A)) fun b0O =>
 qP Tryd.prog (xPick a6N b0O (Value.bool false)) fun a0O =>
 qL Tryd.prog a1C (blk F7) (gsem (asB a0O) true (xV (Instr.loadAt 25 F7))) fun e3B =>
 qL Tryd.prog a1C (blk V4) (gsem (asB a0O) true (xV (Instr.loadAt 25 V4))) fun a7z =>
 qL Tryd.prog a1C (blk V4) (gsem (asB a0O) true (xV (Instr.loadAt 25 V4))) fun e3C =>
 qL Tryd.prog a1C (blk F7) (gsem (asB a0O) true (xV (Instr.loadAt 25 F7))) fun b0P =>
 opK Tryd.prog E (gsem (asB a0O) true (xCall (Value.func (.func 15) #[] #[]) [e3B, a7z])) a1C fun b5O a7A =>
 keepX [(blk F7), (blk V4)] a1C a7A (opK Tryd.prog E (gsem (asB a0O) true (xCall (Value.func (.func 15) #[] #[]) [e3C, b0P])) a7A fun e3D a6m =>
 keepX [] a7A a6m (qP Tryd.prog (gsem (asB a0O) true (xBin .eql 4 (.tmp 18) (.tmp 21) b5O e3D)) fun e3E =>
 qP Tryd.prog (xPick a0O e3E (Value.bool false)) fun e3F =>
 R e3F a6m)))))
noncomputable def c3 : Code := Tryd.f3.body.getD .skip
def h3 : Hint := (.seq .none (.seq (.reg [(0, 32, 0), (1, 64, 32), (2, 128, 68), (2, 256, 72), (14, 512, 448), (2, 1024, 68), (2, 2048, 72), (114, 4096, 3136), (146, 8192, 4672), (258, 16384, 8256), (640, 32768, 16384), (1024, 65536, 32776), (1024, 131072, 32772), (7168, 262144, 229376), (1024, 524288, 32772), (1024, 1048576, 32776), (58368, 2097152, 1605632), (74752, 4194304, 2392064), (132096, 8388608, 4227072), (524287, 16, 8388608)] [0, 55404, 55400, 55396, 96, 55372, 55340, 0, 55404, 55404, 55404, 53356, 51308, 49152, 39020, 22636, 0, 55404, 55404, 55404] (.step 0 (.early 1 (.load 2 (.load 3 (.load 5 (.load 6 (.step 4 (.step 7 (.early 8 (.early 9 (.early 10 (.load 11 (.load 12 (.load 14 (.load 15 (.step 13 (.step 16 (.early 17 (.early 18 (.early 19 .done))))))))))))))))))))) .none))
def F14 (w : World) (R : Value → World → Prop) (E : Pan) : Prop :=
 opK Tryd.prog E (xCall (Value.func (.func 50) #[] #[]) []) w fun a7B w_2 =>
 opK Tryd.prog E (xCall (Value.func (.func 24) #[] #[]) [a7B]) w_2 fun a7C w_4 =>
 opK Tryd.prog E (xV (Instr.extract a7C 0)) w_4 fun c3C w_6 =>
 opK Tryd.prog E (xV (Instr.extract a7C 1)) w_6 fun d4O w_8 =>
 opK Tryd.prog E (xCall (Value.func (.func 50) #[] #[]) []) w_8 fun c8P m1 =>
 opK Tryd.prog E (xCall (Value.func (.func 25) #[] #[]) [c8P]) m1 fun b9v k6 =>
 opK Tryd.prog E (xV (Instr.extract b9v 0)) k6 fun c3D o3 =>
 opK Tryd.prog E (xV (Instr.extract b9v 1)) o3 fun c3E q7 =>
 opK Tryd.prog E (xBin .eql 34 (.tmp 15) (.const (Value.int .i64 0)) d4O (Value.int .i64 0)) q7 fun b0Q r6 =>
 opK Tryd.prog E (gsem (asB b0Q) true (xBin .eql 34 (.tmp 18) (.const (Value.int .i64 0)) (gval (asB b0Q) true c3E) (Value.int .i64 0))) r6 fun c3F o7 =>
 opK Tryd.prog E (xPick b0Q c3F (Value.bool false)) o7 fun b0P r7 =>
 opK Tryd.prog E (gsem (asB b0P) true (xBin .eql 3 (.tmp 22) (.const (Value.int .i64 3)) (gval (asB b0P) true c3C) (Value.int .i64 3))) r7 fun b0R r5 =>
 opK Tryd.prog E (xPick b0P b0R (Value.bool false)) r5 fun b5P u6 =>
 opK Tryd.prog E (gsem (asB b5P) true (xBin .eql 3 (.tmp 26) (.const (Value.int .i64 5)) (gval (asB b5P) true c3D) (Value.int .i64 5))) u6 fun b0S v8 =>
 opK Tryd.prog E (xPick b5P b0S (Value.bool false)) v8 fun a7D t7 =>
 opK Tryd.prog E (gsem (asB a7D) true (xV (Instr.build 30 #[(1, (Value.int .i64 (-1))), (0, (Value.int .i64 1))]))) t7 fun c3G y8 =>
 opK Tryd.prog E (gsem (asB a7D) true (xCall (Value.func (.func 17) #[] #[]) [c3G])) y8 fun b3m A8 =>
 opK Tryd.prog E (gsem (asB a7D) true (xBin .eql 34 (.tmp 31) (.const (Value.int .i64 30)) b3m (Value.int .i64 30))) A8 fun e3G B2 =>
 opK Tryd.prog E (xPick a7D e3G (Value.bool false)) B2 fun b9w v2 =>
 opK Tryd.prog E (gsem (asB b9w) true (xCall (Value.func (.func 50) #[] #[]) [])) v2 fun e3H C3 =>
 opK Tryd.prog E (gsem (asB b9w) true (xCall (Value.func (.func 50) #[] #[]) [])) C3 fun e3I G5 =>
 opK Tryd.prog E (gsem (asB b9w) true (xCall (Value.func (.func 15) #[] #[]) [e3H, e3I])) G5 fun e3J E5 =>
 opK Tryd.prog E (xPick b9w e3J (Value.bool false)) E5 fun e3K K0 =>
 R e3K K0
noncomputable def c14 : Code := Tryd.f14.body.getD .skip
def h14 : Hint := (.seq .none (.seq .none (.seq .none (.seq .none .none))))
theorem e3L (w : World) (R : Value → World → Prop) (E : Pan) : F14  w R E = callX Tryd.prog [.tmp 0] c14 h14 [] w R E := by kernel_rfl
theorem e3M {w : World} {R : Value → World → Prop} {E : Pan} (h : F14  w R E) : Cv Tryd.prog 14 #[] w R E := by
 refine g8 (args := []) (c := c14) (h := h14) (rs := [.tmp 0]) Tryd.func14 (by kernel_rfl) (by kernel_rfl) (Nat.zero_le _) (by kernel_rfl) (by kernel_rfl) (by kernel_rfl) ?_
 rw [← e3L]
 exact h
def F15 (x0 x1 : Value) (w : World) (R : Value → World → Prop) (E : Pan) : Prop :=
 opK Tryd.prog E (xV (Instr.box 25 x0)) w fun V4 w_2 =>
 opK Tryd.prog E (xV (Instr.box 25 x1)) w_2 fun F7 w_4 =>
 opK Tryd.prog E (xV (Instr.loadAt 25 V4)) w_4 fun a7E w_6 =>
 opK Tryd.prog E (xCall (Value.func (.func 51) #[] #[]) [a7E]) w_6 fun a8O w_8 =>
 opK Tryd.prog E (gsem (asB a8O) true (xV (Instr.loadAt 25 F7))) w_8 fun b0M m1 =>
 opK Tryd.prog E (gsem (asB a8O) true (xCall (Value.func (.func 51) #[] #[]) [b0M])) m1 fun b0g k6 =>
 opK Tryd.prog E (xPick a8O b0g (Value.bool false)) k6 fun a4c o3 =>
 opK Tryd.prog E (gsem (asB a4c) true (xV (Instr.fieldAt 25 V4 0))) o3 fun a6y q7 =>
 opK Tryd.prog E (gsem (asB a4c) true (xV (Instr.loadAt 22 a6y))) q7 fun c3H r6 =>
 opK Tryd.prog E (gsem (asB a4c) true (xV (Instr.fieldAt 25 F7 0))) r6 fun c3I o7 =>
 opK Tryd.prog E (gsem (asB a4c) true (xV (Instr.loadAt 22 c3I))) o7 fun b5Q r7 =>
 opK Tryd.prog E (gsem (asB a4c) true (xCall (Value.func (.func 52) #[] #[]) [c3H, b5Q])) r7 fun c3J r5 =>
 opK Tryd.prog E (xPick a4c c3J (Value.bool false)) r5 fun a9C u6 =>
 opK Tryd.prog E (gsem (asB a9C) true (xV (Instr.fieldAt 25 V4 1))) u6 fun b0T v8 =>
 opK Tryd.prog E (gsem (asB a9C) true (xV (Instr.loadAt 23 b0T))) v8 fun e3N t7 =>
 opK Tryd.prog E (gsem (asB a9C) true (xV (Instr.fieldAt 25 F7 1))) t7 fun b9x y8 =>
 opK Tryd.prog E (gsem (asB a9C) true (xV (Instr.loadAt 23 b9x))) y8 fun c3K A8 =>
 opK Tryd.prog E (gsem (asB a9C) true (xCall (Value.func (.func 53) #[] #[]) [e3N, c3K, (Value.func (.func 54) #[] #[])])) A8 fun e3O B2 =>
 opK Tryd.prog E (xPick a9C e3O (Value.bool false)) B2 fun c3L v2 =>
 R c3L v2
noncomputable def c15 : Code := Tryd.f15.body.getD .skip
def h15 : Hint := (.seq .none (.seq .none .none))
theorem e3P (x0 x1 : Value) (w : World) (R : Value → World → Prop) (E : Pan) : F15 x0 x1 w R E = callX Tryd.prog [.tmp 4] c15 h15 [x0, x1] w R E := by kernel_rfl
theorem e3Q {x0 x1 : Value} {w : World} {R : Value → World → Prop} {E : Pan} (h : F15 x0 x1 w R E) : Cv Tryd.prog 15 #[x0, x1] w R E := by
 refine g8 (args := [x0, x1]) (c := c15) (h := h15) (rs := [.tmp 4]) Tryd.func15 (by kernel_rfl) (by kernel_rfl) (Nat.le_of_ble_eq_true (by kernel_rfl)) (by kernel_rfl) (by kernel_rfl) (by kernel_rfl) ?_
 rw [← e3P]
 exact h
def F17 (x0 : Value) (w : World) (R : Value → World → Prop) (E : Pan) : Prop :=
 opK Tryd.prog E (xV (Instr.box 30 x0)) w fun t6 w_2 =>
 opK Tryd.prog E (xV (Instr.loadAt 30 t6)) w_2 fun F7 w_4 =>
 opK Tryd.prog E (xV (Instr.build 96 #[(0, F7)])) w_4 fun a2P w_6 =>
 opK Tryd.prog E (xV (Instr.makeInterface 96 a2P)) w_6 fun a4Y w_8 =>
 opK Tryd.prog E (xV (Instr.buildSlice 97 1 #[(0, a4Y)])) w_8 fun a8P m1 =>
 opK Tryd.prog E (xCall (Value.func (.func 57) #[] #[]) [a8P]) m1 fun a4d k6 =>
 opK Tryd.prog E (xNil a4d) k6 fun c8Q o3 =>
 opK Tryd.prog E (xV (Instr.fieldAt 92 c8Q 2)) o3 fun f8f q7 =>
 opK Tryd.prog E (xV (Instr.loadAt 34 f8f)) q7 fun e3R r6 =>
 R e3R r6
noncomputable def c17 : Code := Tryd.f17.body.getD .skip
def h17 : Hint := (.seq .none (.seq .none .none))
theorem e3S (x0 : Value) (w : World) (R : Value → World → Prop) (E : Pan) : F17 x0 w R E = callX Tryd.prog [.tmp 2] c17 h17 [x0] w R E := by kernel_rfl
theorem e3T {x0 : Value} {w : World} {R : Value → World → Prop} {E : Pan} (h : F17 x0 w R E) : Cv Tryd.prog 17 #[x0] w R E := by
 refine g8 (args := [x0]) (c := c17) (h := h17) (rs := [.tmp 2]) Tryd.func17 (by kernel_rfl) (by kernel_rfl) (Nat.le_of_ble_eq_true (by kernel_rfl)) (by kernel_rfl) (by kernel_rfl) (by kernel_rfl) ?_
 rw [← e3S]
 exact h
def F24 (x0 : Value) (w : World) (R : Value → World → Prop) (E : Pan) : Prop :=
 opK Tryd.prog E (xV (Instr.box 25 x0)) w fun t6 w_2 =>
 opK Tryd.prog E (xV (Instr.loadAt 25 t6)) w_2 fun a6O w_4 =>
 opK Tryd.prog E (xCall (Value.func (.func 66) #[] #[]) [a6O]) w_4 fun a2Q w_6 =>
 opK Tryd.prog E (xNil a2Q) w_6 fun a4Z w_8 =>
 opK Tryd.prog E (xV (Instr.fieldAt 92 a4Z 2)) w_8 fun a6n m1 =>
 opK Tryd.prog E (xV (Instr.loadAt 34 a6n)) m1 fun b0U k6 =>
 opK Tryd.prog E (xBin .neq 34 (.tmp 10) (.const (Value.int .i64 0)) b0U (Value.int .i64 0)) k6 fun b0V o3 =>
 xcond b0V
 (dX o3 fun a1C =>
 qP Tryd.prog (xNil a2Q) fun b0O =>
 qP Tryd.prog (xV (Instr.fieldAt 92 b0O 2)) fun a0O =>
 qL Tryd.prog a1C (blk a0O) (xV (Instr.loadAt 34 a0O)) fun b0W =>
 R (Value.tuple #[(Value.int .i64 0), b0W]) a1C)
 (opK Tryd.prog E (xNil a2Q) o3 fun a7z o7 =>
 opK Tryd.prog E (xV (Instr.fieldAt 92 a7z 1)) o7 fun b5R r7 =>
 opK Tryd.prog E (xV (Instr.loadAt 3 b5R)) r7 fun a7F r5 =>
 R (Value.tuple #[a7F, (Value.int .i64 0)]) r5)
noncomputable def c24 : Code := Tryd.f24.body.getD .skip
def h24 : Hint := (.seq .none (.seq .none (.seq (.seq .none (.cond (.seq (.reg [(0, 4096, 16), (1, 8192, 4096), (2, 16384, 8192), (4, 32768, 16384), (0, 4, 0), (31, 8, 32768)] [8, 8, 8, 0, 8, 8] (.early 0 (.early 1 (.early 2 (.early 4 (.load 3 (.early 5 .done))))))) .none) .none)) (.seq .none .none))))
theorem e3U (x0 : Value) (w : World) (R : Value → World → Prop) (E : Pan) : F24 x0 w R E = callX Tryd.prog [.tmp 2, .tmp 3] c24 h24 [x0] w R E := by kernel_rfl
theorem e3V {x0 : Value} {w : World} {R : Value → World → Prop} {E : Pan} (h : F24 x0 w R E) : Cv Tryd.prog 24 #[x0] w R E := by
 refine g8 (args := [x0]) (c := c24) (h := h24) (rs := [.tmp 2, .tmp 3]) Tryd.func24 (by kernel_rfl) (by kernel_rfl) (Nat.le_of_ble_eq_true (by kernel_rfl)) (by kernel_rfl) (by kernel_rfl) (by kernel_rfl) ?_
 rw [← e3U]
 exact h
def F25 (x0 : Value) (w : World) (R : Value → World → Prop) (E : Pan) : Prop :=
 opK Tryd.prog E (xV (Instr.box 25 x0)) w fun t6 w_2 =>
 opK Tryd.prog E (xV (Instr.loadAt 25 t6)) w_2 fun a6O w_4 =>
 opK Tryd.prog E (xCall (Value.func (.func 66) #[] #[]) [a6O]) w_4 fun a2Q w_6 =>
 opK Tryd.prog E (xNil a2Q) w_6 fun a4Z w_8 =>
 opK Tryd.prog E (xV (Instr.fieldAt 92 a4Z 2)) w_8 fun a6n m1 =>
 opK Tryd.prog E (xV (Instr.loadAt 34 a6n)) m1 fun b0U k6 =>
 opK Tryd.prog E (xBin .neq 34 (.tmp 10) (.const (Value.int .i64 0)) b0U (Value.int .i64 0)) k6 fun b0V o3 =>
 xcond b0V
 (dX o3 fun a1C =>
 qP Tryd.prog (xNil a2Q) fun b0O =>
 qP Tryd.prog (xV (Instr.fieldAt 92 b0O 2)) fun a0O =>
 qL Tryd.prog a1C (blk a0O) (xV (Instr.loadAt 34 a0O)) fun b0W =>
 R (Value.tuple #[(Value.int .i64 0), b0W]) a1C)
 (opK Tryd.prog E (xNil a2Q) o3 fun a7z o7 =>
 opK Tryd.prog E (xV (Instr.fieldAt 92 a7z 0)) o7 fun b5R r7 =>
 opK Tryd.prog E (xV (Instr.loadAt 3 b5R)) r7 fun a7F r5 =>
 R (Value.tuple #[a7F, (Value.int .i64 0)]) r5)
noncomputable def c25 : Code := Tryd.f25.body.getD .skip
def h25 : Hint := (.seq .none (.seq .none (.seq (.seq .none (.cond (.seq (.reg [(0, 4096, 16), (1, 8192, 4096), (2, 16384, 8192), (4, 32768, 16384), (0, 4, 0), (31, 8, 32768)] [8, 8, 8, 0, 8, 8] (.early 0 (.early 1 (.early 2 (.early 4 (.load 3 (.early 5 .done))))))) .none) .none)) (.seq .none .none))))
theorem e3W (x0 : Value) (w : World) (R : Value → World → Prop) (E : Pan) : F25 x0 w R E = callX Tryd.prog [.tmp 2, .tmp 3] c25 h25 [x0] w R E := by kernel_rfl
theorem e3X {x0 : Value} {w : World} {R : Value → World → Prop} {E : Pan} (h : F25 x0 w R E) : Cv Tryd.prog 25 #[x0] w R E := by
 refine g8 (args := [x0]) (c := c25) (h := h25) (rs := [.tmp 2, .tmp 3]) Tryd.func25 (by kernel_rfl) (by kernel_rfl) (Nat.le_of_ble_eq_true (by kernel_rfl)) (by kernel_rfl) (by kernel_rfl) (by kernel_rfl) ?_
 rw [← e3W]
 exact h
def F27 (x0 : Value) (w : World) (R : Value → World → Prop) (E : Pan) : Prop :=
 opK Tryd.prog E (xV (Instr.box 25 x0)) w fun t6 w_2 =>
 opK Tryd.prog E (xV (Instr.loadAt 25 t6)) w_2 fun F7 w_4 =>
 opK Tryd.prog E (xCall (Value.func (.func 66) #[] #[]) [F7]) w_4 fun a2P w_6 =>
 opK Tryd.prog E (xNil a2P) w_6 fun a4Y w_8 =>
 opK Tryd.prog E (xV (Instr.fieldAt 92 a4Y 2)) w_8 fun a8P m1 =>
 opK Tryd.prog E (xV (Instr.loadAt 34 a8P)) m1 fun a4d k6 =>
 R a4d k6
noncomputable def c27 : Code := Tryd.f27.body.getD .skip
def h27 : Hint := (.seq .none (.seq .none .none))
theorem e3Y (x0 : Value) (w : World) (R : Value → World → Prop) (E : Pan) : F27 x0 w R E = callX Tryd.prog [.tmp 2] c27 h27 [x0] w R E := by kernel_rfl
theorem e3Z {x0 : Value} {w : World} {R : Value → World → Prop} {E : Pan} (h : F27 x0 w R E) : Cv Tryd.prog 27 #[x0] w R E := by
 refine g8 (args := [x0]) (c := c27) (h := h27) (rs := [.tmp 2]) Tryd.func27 (by kernel_rfl) (by kernel_rfl) (Nat.le_of_ble_eq_true (by kernel_rfl)) (by kernel_rfl) (by kernel_rfl) (by kernel_rfl) ?_
 rw [← e3Y]
 exact h
def F50 (w : World) (R : Value → World → Prop) (E : Pan) : Prop :=
 opK Tryd.prog E (xV (Instr.alloc 25 true (.tuple #[]))) w fun e4a w_2 =>
 opK Tryd.prog E (xV (Instr.build 30 #[(0, (Value.int .i64 2)), (2, (Value.string ⟨#[120]⟩))])) w_2 fun c8R w_4 =>
 opK Tryd.prog E (xV (Instr.build 30 #[(0, (Value.int .i64 1)), (1, (Value.int .i64 1))])) w_4 fun b3Z w_6 =>
 opK Tryd.prog E (xV (Instr.buildSlice 28 2 #[(0, c8R), (1, b3Z)])) w_6 fun b5S w_8 =>
 opK Tryd.prog E (xV (Instr.build 30 #[(0, (Value.int .i64 6)), (3, b5S)])) w_8 fun g1L m1 =>
 opK Tryd.prog E (xV (Instr.alloc 30 true (.tuple #[]))) m1 fun d8M k6 =>
 opK Tryd.prog E (xU (Instr.storeAt 30 d8M g1L)) k6 fun _z_13 o3 =>
 opK Tryd.prog E (xV (Instr.build 67 #[(0, (Value.string ⟨#[120]⟩))])) o3 fun b2B q7 =>
 opK Tryd.prog E (xV (Instr.buildSlice 22 1 #[(0, b2B)])) q7 fun f8g r6 =>
 opK Tryd.prog E (xV (Instr.loadAt 30 d8M)) r6 fun f8h o7 =>
 opK Tryd.prog E (xV (Instr.buildSlice 28 1 #[(0, f8h)])) o7 fun f8i r7 =>
 opK Tryd.prog E (xV (Instr.build 88 #[(0, (Value.int .i64 1)), (1, (Value.string ⟨#[120]⟩)), (2, f8i)])) r7 fun e4b r5 =>
 opK Tryd.prog E (xV (Instr.buildSlice 23 1 #[(0, e4b)])) r5 fun e4c u6 =>
 opK Tryd.prog E (xV (Instr.build 25 #[(0, f8g), (1, e4c)])) u6 fun e4d v8 =>
 opK Tryd.prog E (xU (Instr.storeAt 25 e4a e4d)) v8 fun _z_29 t7 =>
 xcell Tryd.prog 25 e4a t7 fun g1M =>
 R g1M t7
noncomputable def c50 : Code := Tryd.f50.body.getD .skip
def h50 : Hint := (.seq .none (.seq .none (.seq .none .none)))
theorem e4e (w : World) (R : Value → World → Prop) (E : Pan) : F50  w R E = callX Tryd.prog [.cell 0 25] c50 h50 [] w R E := by kernel_rfl
theorem e4f {w : World} {R : Value → World → Prop} {E : Pan} (h : F50  w R E) : Cv Tryd.prog 50 #[] w R E := by
 refine g8 (args := []) (c := c50) (h := h50) (rs := [.cell 0 25]) Tryd.func50 (by kernel_rfl) (by kernel_rfl) (Nat.zero_le _) (by kernel_rfl) (by kernel_rfl) (by kernel_rfl) ?_
 rw [← e4e]
 exact h
def F51 (x0 : Value) (w : World) (R : Value → World → Prop) (E : Pan) : Prop :=
 opK Tryd.prog E (xV (Instr.box 25 x0)) w fun t6 w_2 =>
 opK Tryd.prog E (xV (Instr.loadAt 25 t6)) w_2 fun b2P w_4 =>
 opK Tryd.prog E (xCall (Value.func (.func 27) #[] #[]) [b2P]) w_4 fun a7E w_6 =>
 opK Tryd.prog E (xBin .neq 34 (.tmp 6) (.const (Value.int .i64 32)) a7E (Value.int .i64 32)) w_6 fun b0X w_8 =>
 opK Tryd.prog E (gsem (asB b0X) true (xBin .neq 34 (.tmp 9) (.const (Value.int .i64 33)) (gval (asB b0X) true a7E) (Value.int .i64 33))) w_8 fun f8j m1 =>
 opK Tryd.prog E (xPick b0X f8j (Value.bool false)) m1 fun b0N k6 =>
 R b0N k6
noncomputable def c51 : Code := Tryd.f51.body.getD .skip
def h51 : Hint := (.seq .none (.seq .none (.seq .none .none)))
theorem e4g (x0 : Value) (w : World) (R : Value → World → Prop) (E : Pan) : F51 x0 w R E = callX Tryd.prog [.tmp 2] c51 h51 [x0] w R E := by kernel_rfl
theorem e4h {x0 : Value} {w : World} {R : Value → World → Prop} {E : Pan} (h : F51 x0 w R E) : Cv Tryd.prog 51 #[x0] w R E := by
 refine g8 (args := [x0]) (c := c51) (h := h51) (rs := [.tmp 2]) Tryd.func51 (by kernel_rfl) (by kernel_rfl) (Nat.le_of_ble_eq_true (by kernel_rfl)) (by kernel_rfl) (by kernel_rfl) (by kernel_rfl) ?_
 rw [← e4g]
 exact h
def c3M (w : World) (R : Value → World → Prop) (_E : Pan) : Prop :=
 ∀ _τ : Fr, (R (Value.bool true) w)
def d2O (x0 x1 x12 x13 : Value) (w : World) (next2 : List Value → World → Prop) (j1 : List Value → World → Prop) (R : Value → World → Prop) (E : Pan) : Prop :=
 opK Tryd.prog E (xBin .lss 3 (.tmp 13) (.tmp 12) x13 x12) w fun b0Y k6 =>
 xcond b0Y
 (dX k6 fun V5 =>
 qP Tryd.prog (xV (Instr.indexAt 22 x0 x13)) fun d2P =>
 qP Tryd.prog (xV (Instr.indexAt 22 x1 x13)) fun d2Q =>
 qL Tryd.prog V5 (blk d2P) (xV (Instr.loadAt 67 d2P)) fun e4i =>
 qL Tryd.prog V5 (blk d2Q) (xV (Instr.loadAt 67 d2Q)) fun c3N =>
 qP Tryd.prog (xBin .neq 67 (.tmp 19) (.tmp 23) e4i c3N) fun e4j =>
 xcond e4j
 (R (Value.bool false) V5)
 (opK Tryd.prog E (xBin .add 3 (.tmp 13) (.const (Value.int .i64 1)) x13 (Value.int .i64 1)) V5 fun e4k o7 =>
 next2 [e4k] o7))
 (j1 [] k6)
def F52 (x0 x1 : Value) (w : World) (R : Value → World → Prop) (E : Pan) : Prop :=
 opK Tryd.prog E (xBuiltin .len #[22] 3 [false] [x0]) w fun b4a w_2 =>
 opK Tryd.prog E (xBuiltin .len #[22] 3 [false] [x1]) w_2 fun a5a w_4 =>
 opK Tryd.prog E (xBin .neq 3 (.tmp 7) (.tmp 9) b4a a5a) w_4 fun a2Y w_6 =>
 xcond a2Y
 (R (Value.bool false) w_6)
 (xcut (fun _ w_8 => c3M w_8 R E) fun j1 =>
 opK Tryd.prog E (xBuiltin .len #[22] 3 [false] [x0]) w_6 fun b7e m1 =>
 xloop [13] [(Value.int .i64 0)] m1 fun τ_21 r7 next2 =>
 d2O x0 x1 b7e (τ_21 13) r7 next2 j1 R E)
noncomputable def c52 : Code := Tryd.f52.body.getD .skip
def h52 : Hint := (.seq .none (.seq (.seq .none (.cond (.seq .none .none) .none)) (.cut [] (.seq .none (.block (.loop [13] (.seq .none (.seq (.cond .none .none) (.seq (.block (.seq .none (.seq (.reg [(0, 65536, 1), (0, 131072, 32), (3, 262144, 196608), (4, 524288, 262144), (0, 1048576, 2), (0, 2097152, 32), (48, 4194304, 3145728), (64, 8388608, 4194304), (136, 16777216, 8912896)] [136, 136, 136, 128, 136, 136, 136, 8, 136] (.early 0 (.early 1 (.early 2 (.early 4 (.early 5 (.early 6 (.load 3 (.load 7 (.early 8 .done)))))))))) (.cond (.seq .none .none) .none)))) .none)))))) (.seq .none .none))))
theorem e4l (x0 x1 : Value) (w : World) (R : Value → World → Prop) (E : Pan) : F52 x0 x1 w R E = callX Tryd.prog [.tmp 4] c52 h52 [x0, x1] w R E := by kernel_rfl
theorem e4m {x0 x1 : Value} {w : World} {R : Value → World → Prop} {E : Pan} (h : F52 x0 x1 w R E) : Cv Tryd.prog 52 #[x0, x1] w R E := by
 refine g8 (args := [x0, x1]) (c := c52) (h := h52) (rs := [.tmp 4]) Tryd.func52 (by kernel_rfl) (by kernel_rfl) (Nat.le_of_ble_eq_true (by kernel_rfl)) (by kernel_rfl) (by kernel_rfl) (by kernel_rfl) ?_
 rw [← e4l]
 exact h
def c3O (w : World) (R : Value → World → Prop) (_E : Pan) : Prop :=
 ∀ _τ : Fr, (R (Value.bool true) w)
def d2R (x1 x2 x15 x16 x17 : Value) (w : World) (next2 : List Value → World → Prop) (j1 : List Value → World → Prop) (R : Value → World → Prop) (E : Pan) : Prop :=
 opK Tryd.prog E (xBin .lss 3 (.tmp 17) (.tmp 16) x17 x16) w fun b5T k6 =>
 xcond b5T
 (opK Tryd.prog E (xV (Instr.indexAt 23 x15 x17)) k6 fun b5U o3 =>
 opK Tryd.prog E (xV (Instr.loadAt 88 b5U)) o3 fun b5V q7 =>
 opK Tryd.prog E (xV (Instr.alloc 88 true (.tuple #[]))) q7 fun b2C r6 =>
 opK Tryd.prog E (xU (Instr.storeAt 88 b2C b5V)) r6 fun _z_19 o7 =>
 opK Tryd.prog E (xV (Instr.indexAt 23 x1 x17)) o7 fun b5W r7 =>
 opK Tryd.prog E (xV (Instr.loadAt 88 b5W)) r7 fun b5X r5 =>
 opK Tryd.prog E (xV (Instr.alloc 88 true (.tuple #[]))) r5 fun b2D u6 =>
 opK Tryd.prog E (xU (Instr.storeAt 88 b2D b5X)) u6 fun _z_27 v8 =>
 opK Tryd.prog E (xV (Instr.loadAt 88 b2C)) v8 fun b0Z t7 =>
 opK Tryd.prog E (xV (Instr.loadAt 88 b2D)) t7 fun a4e y8 =>
 opK Tryd.prog E (xCall x2 [b0Z, a4e]) y8 fun b5Y A8 =>
 opK Tryd.prog E (xV (Op.unary .not b5Y)) A8 fun b5Z B2 =>
 xcond b5Z
 (R (Value.bool false) B2)
 (opK Tryd.prog E (xBin .add 3 (.tmp 17) (.const (Value.int .i64 1)) x17 (Value.int .i64 1)) B2 fun b1a v2 =>
 next2 [b1a] v2))
 (j1 [] k6)
def F53 (x0 x1 x2 : Value) (w : World) (R : Value → World → Prop) (E : Pan) : Prop :=
 opK Tryd.prog E (xBuiltin .len #[23] 3 [false] [x0]) w fun b9y w_2 =>
 opK Tryd.prog E (xBuiltin .len #[23] 3 [false] [x1]) w_2 fun b0h w_4 =>
 opK Tryd.prog E (xBin .neq 3 (.tmp 11) (.tmp 13) b9y b0h) w_4 fun b0i w_6 =>
 xcond b0i
 (R (Value.bool false) w_6)
 (xcut (fun _ w_8 => c3O w_8 R E) fun j1 =>
 opK Tryd.prog E (xBuiltin .len #[23] 3 [false] [x0]) w_6 fun b9z m1 =>
 xloop [17] [(Value.int .i64 0)] m1 fun τ_39 C3 next2 =>
 d2R x1 x2 x0 b9z (τ_39 17) C3 next2 j1 R E)
noncomputable def c53 : Code := Tryd.f53.body.getD .skip
def h53 : Hint := (.seq .none (.seq (.seq .none (.cond (.seq .none .none) .none)) (.cut [] (.seq .none (.block (.loop [17] (.seq .none (.seq (.cond .none .none) (.seq (.block (.seq .none (.seq .none (.seq .none (.cond (.seq .none .none) .none))))) .none)))))) (.seq .none .none))))
theorem e4n (x0 x1 x2 : Value) (w : World) (R : Value → World → Prop) (E : Pan) : F53 x0 x1 x2 w R E = callX Tryd.prog [.tmp 6] c53 h53 [x0, x1, x2] w R E := by kernel_rfl
theorem e4o {x0 x1 x2 : Value} {w : World} {R : Value → World → Prop} {E : Pan} (h : F53 x0 x1 x2 w R E) : Cv Tryd.prog 53 #[x0, x1, x2] w R E := by
 refine g8 (args := [x0, x1, x2]) (c := c53) (h := h53) (rs := [.tmp 6]) Tryd.func53 (by kernel_rfl) (by kernel_rfl) (Nat.le_of_ble_eq_true (by kernel_rfl)) (by kernel_rfl) (by kernel_rfl) (by kernel_rfl) ?_
 rw [← e4n]
 exact h
def F54 (x0 x1 : Value) (w : World) (R : Value → World → Prop) (E : Pan) : Prop :=
 opK Tryd.prog E (xV (Instr.box 88 x0)) w fun V4 w_2 =>
 opK Tryd.prog E (xV (Instr.box 88 x1)) w_2 fun F7 w_4 =>
 opK Tryd.prog E (xV (Instr.fieldAt 88 V4 0)) w_4 fun a7E w_6 =>
 opK Tryd.prog E (xV (Instr.loadAt 3 a7E)) w_6 fun a8O w_8 =>
 opK Tryd.prog E (xV (Instr.fieldAt 88 F7 0)) w_8 fun b8g m1 =>
 opK Tryd.prog E (xV (Instr.loadAt 3 b8g)) m1 fun a7G k6 =>
 opK Tryd.prog E (xBin .eql 3 (.tmp 6) (.tmp 8) a8O a7G) k6 fun V9 o3 =>
 opK Tryd.prog E (gsem (asB V9) true (xV (Instr.fieldAt 88 V4 1))) o3 fun a4I q7 =>
 opK Tryd.prog E (gsem (asB V9) true (xV (Instr.loadAt 9 a4I))) q7 fun a4J r6 =>
 opK Tryd.prog E (gsem (asB V9) true (xV (Instr.fieldAt 88 F7 1))) r6 fun a4K o7 =>
 opK Tryd.prog E (gsem (asB V9) true (xV (Instr.loadAt 9 a4K))) o7 fun a4L r7 =>
 opK Tryd.prog E (gsem (asB V9) true (xBin .eql 9 (.tmp 12) (.tmp 14) a4J a4L)) r7 fun a7H r5 =>
 opK Tryd.prog E (xPick V9 a7H (Value.bool false)) r5 fun a0f u6 =>
 opK Tryd.prog E (gsem (asB a0f) true (xV (Instr.fieldAt 88 V4 2))) u6 fun b1b v8 =>
 opK Tryd.prog E (gsem (asB a0f) true (xV (Instr.loadAt 28 b1b))) v8 fun b1c t7 =>
 opK Tryd.prog E (gsem (asB a0f) true (xV (Instr.fieldAt 88 F7 2))) t7 fun b1d y8 =>
 opK Tryd.prog E (gsem (asB a0f) true (xV (Instr.loadAt 28 b1d))) y8 fun b1e A8 =>
 opK Tryd.prog E (gsem (asB a0f) true (xCall (Value.func (.func 83) #[] #[]) [b1c, b1e, (Value.func (.func 84) #[] #[])])) A8 fun b1f B2 =>
 opK Tryd.prog E (xPick a0f b1f (Value.bool false)) B2 fun a0g v2 =>
 opK Tryd.prog E (gsem (asB a0g) true (xV (Instr.fieldAt 88 V4 3))) v2 fun b6a C3 =>
 opK Tryd.prog E (gsem (asB a0g) true (xV (Instr.loadAt 31 b6a))) C3 fun b6b G5 =>
 opK Tryd.prog E (gsem (asB a0g) true (xV (Instr.fieldAt 88 F7 3))) G5 fun b6c E5 =>
 opK Tryd.prog E (gsem (asB a0g) true (xV (Instr.loadAt 31 b6c))) E5 fun b6d K0 =>
 opK Tryd.prog E (gsem (asB a0g) true (xCall (Value.func (.func 85) #[] #[]) [b6b, b6d, (Value.func (.func 86) #[] #[])])) K0 fun b6e I8 =>
 opK Tryd.prog E (xPick a0g b6e (Value.bool false)) I8 fun a6z I9 =>
 opK Tryd.prog E (gsem (asB a6z) true (xV (Instr.fieldAt 88 V4 4))) I9 fun e4p O7 =>
 opK Tryd.prog E (gsem (asB a6z) true (xV (Instr.loadAt 23 e4p))) O7 fun e4q P6 =>
 opK Tryd.prog E (gsem (asB a6z) true (xV (Instr.fieldAt 88 F7 4))) P6 fun e4r L4 =>
 opK Tryd.prog E (gsem (asB a6z) true (xV (Instr.loadAt 23 e4r))) L4 fun e4s P7 =>
 opK Tryd.prog E (gsem (asB a6z) true (xCall (Value.func (.func 53) #[] #[]) [e4q, e4s, (Value.func (.func 54) #[] #[])])) P7 fun e4t W5 =>
 opK Tryd.prog E (xPick a6z e4t (Value.bool false)) W5 fun b3n a0o =>
 opK Tryd.prog E (gsem (asB b3n) true (xV (Instr.fieldAt 88 V4 5))) a0o fun e4u V6 =>
 opK Tryd.prog E (gsem (asB b3n) true (xV (Instr.loadAt 23 e4u))) V6 fun e4v a0p =>
 opK Tryd.prog E (gsem (asB b3n) true (xV (Instr.fieldAt 88 F7 5))) a0p fun c3P a0F =>
 opK Tryd.prog E (gsem (asB b3n) true (xV (Instr.loadAt 23 c3P))) a0F fun c3Q O8 =>
 opK Tryd.prog E (gsem (asB b3n) true (xCall (Value.func (.func 53) #[] #[]) [e4v, c3Q, (Value.func (.func 54) #[] #[])])) O8 fun c3R a0G =>
 opK Tryd.prog E (xPick b3n c3R (Value.bool false)) a0G fun c3S a1h =>
 R c3S a1h
noncomputable def c54 : Code := Tryd.f54.body.getD .skip
def h54 : Hint := (.seq .none (.seq .none .none))
theorem e4w (x0 x1 : Value) (w : World) (R : Value → World → Prop) (E : Pan) : F54 x0 x1 w R E = callX Tryd.prog [.tmp 4] c54 h54 [x0, x1] w R E := by kernel_rfl
theorem e4x {x0 x1 : Value} {w : World} {R : Value → World → Prop} {E : Pan} (h : F54 x0 x1 w R E) : Cv Tryd.prog 54 #[x0, x1] w R E := by
 refine g8 (args := [x0, x1]) (c := c54) (h := h54) (rs := [.tmp 4]) Tryd.func54 (by kernel_rfl) (by kernel_rfl) (Nat.le_of_ble_eq_true (by kernel_rfl)) (by kernel_rfl) (by kernel_rfl) (by kernel_rfl) ?_
 rw [← e4w]
 exact h
def c3T (x3 : Value) (w : World) (R : Value → World → Prop) (E : Pan) : Prop :=
 ∀ _τ : Fr, (opK Tryd.prog E (xV (Instr.loadAt 93 x3)) w fun e4y q7 =>
 R e4y q7)
def F57 (x0 : Value) (w : World) (R : Value → World → Prop) (E : Pan) : Prop :=
 opK Tryd.prog E (xV (Instr.build 92 #[])) w fun a7B w_2 =>
 opK Tryd.prog E (xV (Instr.box 92 a7B)) w_2 fun a7C w_4 =>
 opK Tryd.prog E (xV (Instr.alloc 93 true (.tuple #[]))) w_4 fun b3Z w_6 =>
 opK Tryd.prog E (xU (Instr.storeAt 93 b3Z a7C)) w_6 fun _z_7 w_8 =>
 opK Tryd.prog E (xV (Instr.alloc 139 true (.tuple #[]))) w_8 fun d4P m1 =>
 opK Tryd.prog E (xV (Instr.makeFunc (.func 89) #[] #[b3Z, d4P])) m1 fun a7G k6 =>
 opK Tryd.prog E (xU (Instr.storeAt 139 d4P a7G)) k6 fun _z_13 o3 =>
 xcut (fun _ r6 => c3T b3Z r6 R E) fun j1 =>
 opK Tryd.prog E (xV (Instr.loadAt 139 d4P)) o3 fun f8k o7 =>
 opK Tryd.prog E (xCall f8k [x0, (Value.int .i64 1)]) o7 fun e4z r7 =>
 opK Tryd.prog E (xV (Op.unary .not e4z)) r7 fun e4A r5 =>
 xcond e4A
 (j1 [] r5)
 (opK Tryd.prog E (xV (Instr.loadAt 93 b3Z)) r5 fun a0f u6 =>
 opK Tryd.prog E (xNil a0f) u6 fun e4B v8 =>
 opK Tryd.prog E (xV (Instr.fieldAt 92 e4B 3)) v8 fun b9A t7 =>
 opK Tryd.prog E (xV (Instr.loadAt 4 b9A)) t7 fun e4C y8 =>
 xcond e4C
 (opK Tryd.prog E (xV (Instr.loadAt 93 b3Z)) y8 fun e4D A8 =>
 opK Tryd.prog E (xNil e4D) A8 fun e4E B2 =>
 opK Tryd.prog E (xV (Instr.fieldAt 92 e4E 2)) B2 fun e4F v2 =>
 opK Tryd.prog E (xU (Instr.storeAt 34 e4F (Value.int .i64 30))) v2 fun _z_39 C3 =>
 j1 [] C3)
 (opK Tryd.prog E (xV (Instr.loadAt 93 b3Z)) y8 fun e4G G5 =>
 opK Tryd.prog E (xNil e4G) G5 fun e4H E5 =>
 opK Tryd.prog E (xV (Instr.fieldAt 92 e4H 4)) E5 fun e4I K0 =>
 opK Tryd.prog E (xV (Instr.loadAt 4 e4I)) K0 fun e4J I8 =>
 xcond e4J
 (opK Tryd.prog E (xV (Instr.loadAt 93 b3Z)) I8 fun e4K I9 =>
 opK Tryd.prog E (xNil e4K) I9 fun e4L O7 =>
 opK Tryd.prog E (xV (Instr.fieldAt 92 e4L 2)) O7 fun e4M P6 =>
 opK Tryd.prog E (xU (Instr.storeAt 34 e4M (Value.int .i64 31))) P6 fun _z_55 L4 =>
 j1 [] L4)
 (j1 [] I8)))
noncomputable def c57 : Code := Tryd.f57.body.getD .skip
def h57 : Hint := (.seq .none (.seq .none (.seq .none (.seq .none (.cut [] (.seq .none (.block (.seq .none (.cond .none (.seq .none (.cond .none (.seq .none (.cond .none .none)))))))) (.seq .none .none))))))
theorem e4N (x0 : Value) (w : World) (R : Value → World → Prop) (E : Pan) : F57 x0 w R E = callX Tryd.prog [.tmp 2] c57 h57 [x0] w R E := by kernel_rfl
theorem e4O {x0 : Value} {w : World} {R : Value → World → Prop} {E : Pan} (h : F57 x0 w R E) : Cv Tryd.prog 57 #[x0] w R E := by
 refine g8 (args := [x0]) (c := c57) (h := h57) (rs := [.tmp 2]) Tryd.func57 (by kernel_rfl) (by kernel_rfl) (Nat.le_of_ble_eq_true (by kernel_rfl)) (by kernel_rfl) (by kernel_rfl) (by kernel_rfl) ?_
 rw [← e4N]
 exact h
def d2S (x0 x2 x4 x6 : Value) (w : World) (next1 : List Value → World → Prop) (R : Value → World → Prop) (E : Pan) : Prop :=
 opK Tryd.prog E (xV (Instr.fieldAt 30 x4 3)) w fun a5b w_8 =>
 opK Tryd.prog E (xV (Instr.loadAt 28 a5b)) w_8 fun a6d m1 =>
 opK Tryd.prog E (xBuiltin .len #[28] 3 [false] [a6d]) m1 fun b0Y k6 =>
 opK Tryd.prog E (xBin .lss 3 (.tmp 11) (.tmp 14) x6 b0Y) k6 fun a9D o3 =>
 opK Tryd.prog E (gsem (asB a9D) true (xNil (gval (asB a9D) true x0))) o3 fun c3U q7 =>
 opK Tryd.prog E (gsem (asB a9D) true (xV (Instr.fieldAt 99 c3U 2))) q7 fun e4P r6 =>
 opK Tryd.prog E (gsem (asB a9D) true (xV (Instr.loadAt 3 e4P))) r6 fun e4Q o7 =>
 opK Tryd.prog E (gsem (asB a9D) true (xBin .eql 3 (.tmp 20) (.const (Value.int .i64 0)) e4Q (Value.int .i64 0))) o7 fun e4R r7 =>
 opK Tryd.prog E (xPick a9D e4R (Value.bool false)) r7 fun c3V r5 =>
 xcond c3V
 (opK Tryd.prog E (xV (Instr.fieldAt 30 x4 3)) r5 fun c3W u6 =>
 opK Tryd.prog E (xV (Instr.loadAt 28 c3W)) u6 fun b0S v8 =>
 opK Tryd.prog E (xV (Instr.indexAt 28 b0S x6)) v8 fun e4S t7 =>
 opK Tryd.prog E (xV (Instr.loadAt 30 e4S)) t7 fun c3G y8 =>
 opK Tryd.prog E (xBin .add 3 (.tmp 31) (.const (Value.int .i64 1)) x2 (Value.int .i64 1)) y8 fun e4T A8 =>
 opK Tryd.prog E (xCall (Value.func (.func 58) #[] #[]) [x0, c3G, e4T]) A8 fun _t33_35 B2 =>
 opK Tryd.prog E (xBin .add 3 (.tmp 23) (.const (Value.int .i64 1)) x6 (Value.int .i64 1)) B2 fun c3L v2 =>
 next1 [c3L] v2)
 (R (Value.tuple #[]) r5)
def F58 (x0 x1 x2 : Value) (w : World) (R : Value → World → Prop) (E : Pan) : Prop :=
 opK Tryd.prog E (xV (Instr.box 30 x1)) w fun b4b w_2 =>
 opK Tryd.prog E (xCall (Value.func (.func 91) #[] #[]) [x0, x2]) w_2 fun a5a w_4 =>
 opK Tryd.prog E (xV (Op.unary .not a5a)) w_4 fun a2Y w_6 =>
 xcond a2Y
 (R (Value.tuple #[]) w_6)
 (xloop [6] [(Value.int .i64 0)] w_6 fun τ_39 C3 next1 =>
 d2S x0 x2 b4b (τ_39 6) C3 next1 R E)
noncomputable def c58 : Code := Tryd.f58.body.getD .skip
def h58 : Hint := (.seq .none (.seq (.seq .none (.cond .none .none)) (.seq .none (.block (.loop [6] (.seq (.seq .none (.cond .none .none)) (.seq (.block .none) .none)))))))
theorem e4U (x0 x1 x2 : Value) (w : World) (R : Value → World → Prop) (E : Pan) : F58 x0 x1 x2 w R E = callX Tryd.prog [] c58 h58 [x0, x1, x2] w R E := by kernel_rfl
theorem e4V {x0 x1 x2 : Value} {w : World} {R : Value → World → Prop} {E : Pan} (h : F58 x0 x1 x2 w R E) : Cv Tryd.prog 58 #[x0, x1, x2] w R E := by
 refine g8 (args := [x0, x1, x2]) (c := c58) (h := h58) (rs := []) Tryd.func58 (by kernel_rfl) (by kernel_rfl) (Nat.le_of_ble_eq_true (by kernel_rfl)) (by kernel_rfl) (by kernel_rfl) (by kernel_rfl) ?_
 rw [← e4U]
 exact h
def d2T (x0 x2 x4 x7 : Value) (w : World) (next2 : List Value → World → Prop) (R : Value → World → Prop) (E : Pan) : Prop :=
 opK Tryd.prog E (xV (Instr.fieldAt 33 x4 3)) w fun f8l w_8 =>
 opK Tryd.prog E (xV (Instr.loadAt 31 f8l)) w_8 fun f8m m1 =>
 opK Tryd.prog E (xBuiltin .len #[31] 3 [false] [f8m]) m1 fun c3X k6 =>
 opK Tryd.prog E (xBin .lss 3 (.tmp 35) (.tmp 38) x7 c3X) k6 fun b3o o3 =>
 opK Tryd.prog E (gsem (asB b3o) true (xNil (gval (asB b3o) true x0))) o3 fun e4W q7 =>
 opK Tryd.prog E (gsem (asB b3o) true (xV (Instr.fieldAt 99 e4W 2))) q7 fun b9B r6 =>
 opK Tryd.prog E (gsem (asB b3o) true (xV (Instr.loadAt 3 b9B))) r6 fun e4X o7 =>
 opK Tryd.prog E (gsem (asB b3o) true (xBin .eql 3 (.tmp 44) (.const (Value.int .i64 0)) e4X (Value.int .i64 0))) o7 fun e4Y r7 =>
 opK Tryd.prog E (xPick b3o e4Y (Value.bool false)) r7 fun e4Z r5 =>
 xcond e4Z
 (opK Tryd.prog E (xV (Instr.fieldAt 33 x4 3)) r5 fun e5a u6 =>
 opK Tryd.prog E (xV (Instr.loadAt 31 e5a)) u6 fun e5b v8 =>
 opK Tryd.prog E (xV (Instr.indexAt 31 e5b x7)) v8 fun e5c t7 =>
 opK Tryd.prog E (xV (Instr.loadAt 33 e5c)) t7 fun e5d y8 =>
 opK Tryd.prog E (xBin .add 3 (.tmp 55) (.const (Value.int .i64 1)) x2 (Value.int .i64 1)) y8 fun e5e A8 =>
 opK Tryd.prog E (xCall (Value.func (.func 61) #[] #[]) [x0, e5d, e5e]) A8 fun _t57_35 B2 =>
 opK Tryd.prog E (xBin .add 3 (.tmp 47) (.const (Value.int .i64 1)) x7 (Value.int .i64 1)) B2 fun e5f v2 =>
 next2 [e5f] v2)
 (R (Value.tuple #[]) r5)
def c3Y (x0 x2 x4 : Value) (w : World) (R : Value → World → Prop) (E : Pan) : Prop :=
 ∀ _τ : Fr, (xloop [7] [(Value.int .i64 0)] w fun τ_39 C3 next2 =>
 d2T x0 x2 x4 (τ_39 7) C3 next2 R E)
def d2U (x0 x2 x4 x6 : Value) (w : World) (next3 : List Value → World → Prop) (j1 : List Value → World → Prop) (_R : Value → World → Prop) (E : Pan) : Prop :=
 opK Tryd.prog E (xV (Instr.fieldAt 33 x4 2)) w fun e5g E5 =>
 opK Tryd.prog E (xV (Instr.loadAt 28 e5g)) E5 fun e5h K0 =>
 opK Tryd.prog E (xBuiltin .len #[28] 3 [false] [e5h]) K0 fun e5i I8 =>
 opK Tryd.prog E (xBin .lss 3 (.tmp 12) (.tmp 15) x6 e5i) I8 fun b3p I9 =>
 opK Tryd.prog E (gsem (asB b3p) true (xNil (gval (asB b3p) true x0))) I9 fun b3q O7 =>
 opK Tryd.prog E (gsem (asB b3p) true (xV (Instr.fieldAt 99 b3q 2))) O7 fun b3r P6 =>
 opK Tryd.prog E (gsem (asB b3p) true (xV (Instr.loadAt 3 b3r))) P6 fun b3s L4 =>
 opK Tryd.prog E (gsem (asB b3p) true (xBin .eql 3 (.tmp 21) (.const (Value.int .i64 0)) b3s (Value.int .i64 0))) L4 fun b3t P7 =>
 opK Tryd.prog E (xPick b3p b3t (Value.bool false)) P7 fun b9C W5 =>
 xcond b9C
 (opK Tryd.prog E (xV (Instr.fieldAt 33 x4 2)) W5 fun e5j a0o =>
 opK Tryd.prog E (xV (Instr.loadAt 28 e5j)) a0o fun e5k V6 =>
 opK Tryd.prog E (xV (Instr.indexAt 28 e5k x6)) V6 fun e5l a0p =>
 opK Tryd.prog E (xV (Instr.loadAt 30 e5l)) a0p fun e5m a0F =>
 opK Tryd.prog E (xBin .add 3 (.tmp 32) (.const (Value.int .i64 1)) x2 (Value.int .i64 1)) a0F fun e5n O8 =>
 opK Tryd.prog E (xCall (Value.func (.func 58) #[] #[]) [x0, e5m, e5n]) O8 fun _t34_71 a0G =>
 opK Tryd.prog E (xBin .add 3 (.tmp 24) (.const (Value.int .i64 1)) x6 (Value.int .i64 1)) a0G fun e5o a1h =>
 next3 [e5o] a1h)
 (j1 [] W5)
def F61 (x0 x1 x2 : Value) (w : World) (R : Value → World → Prop) (E : Pan) : Prop :=
 opK Tryd.prog E (xV (Instr.box 33 x1)) w fun b4b w_2 =>
 opK Tryd.prog E (xCall (Value.func (.func 91) #[] #[]) [x0, x2]) w_2 fun b4c w_4 =>
 opK Tryd.prog E (xV (Op.unary .not b4c)) w_4 fun a7I w_6 =>
 xcond a7I
 (R (Value.tuple #[]) w_6)
 (xcut (fun _ G5 => c3Y x0 x2 b4b G5 R E) fun j1 =>
 xloop [6] [(Value.int .i64 0)] w_6 fun τ_75 a1i next3 =>
 d2U x0 x2 b4b (τ_75 6) a1i next3 j1 R E)
noncomputable def c61 : Code := Tryd.f61.body.getD .skip
def h61 : Hint := (.seq .none (.seq (.seq .none (.cond .none .none)) (.cut [] (.seq .none (.block (.loop [6] (.seq (.seq .none (.cond .none .none)) (.seq (.block .none) .none))))) (.seq .none (.block (.loop [7] (.seq (.seq .none (.cond .none .none)) (.seq (.block .none) .none))))))))
theorem e5p (x0 x1 x2 : Value) (w : World) (R : Value → World → Prop) (E : Pan) : F61 x0 x1 x2 w R E = callX Tryd.prog [] c61 h61 [x0, x1, x2] w R E := by kernel_rfl
theorem e5q {x0 x1 x2 : Value} {w : World} {R : Value → World → Prop} {E : Pan} (h : F61 x0 x1 x2 w R E) : Cv Tryd.prog 61 #[x0, x1, x2] w R E := by
 refine g8 (args := [x0, x1, x2]) (c := c61) (h := h61) (rs := []) Tryd.func61 (by kernel_rfl) (by kernel_rfl) (Nat.le_of_ble_eq_true (by kernel_rfl)) (by kernel_rfl) (by kernel_rfl) (by kernel_rfl) ?_
 rw [← e5p]
 exact h
def c3Z (x2 x3 : Value) (w : World) (R : Value → World → Prop) (E : Pan) : Prop :=
 ∀ _τ : Fr, (opK Tryd.prog E (xV (Instr.loadAt 99 x3)) w fun c3X k6 =>
 opK Tryd.prog E (xU (Instr.storeAt 99 x2 c3X)) k6 fun _z_13 o3 =>
 xcell Tryd.prog 99 x2 o3 fun g1N =>
 R g1N o3)
def d2V (x1 _x2 x3 x5 : Value) (w : World) (next3 : List Value → World → Prop) (j2 : List Value → World → Prop) (_R : Value → World → Prop) (E : Pan) : Prop :=
 opK Tryd.prog E (xV (Instr.fieldAt 25 x1 1)) w fun e5r a5L =>
 opK Tryd.prog E (xV (Instr.loadAt 23 e5r)) a5L fun e5s a0q =>
 opK Tryd.prog E (xBuiltin .len #[23] 3 [false] [e5s]) a0q fun e5t a7A =>
 opK Tryd.prog E (xBin .lss 3 (.tmp 20) (.tmp 23) x5 e5t) a7A fun b9D a6m =>
 opK Tryd.prog E (gsem (asB b9D) true (xV (Instr.fieldAt 99 x3 2))) a6m fun e5u a8Q =>
 opK Tryd.prog E (gsem (asB b9D) true (xV (Instr.loadAt 3 e5u))) a8Q fun e5v a8R =>
 opK Tryd.prog E (gsem (asB b9D) true (xBin .eql 3 (.tmp 27) (.const (Value.int .i64 0)) e5v (Value.int .i64 0))) a8R fun e5w g1O =>
 opK Tryd.prog E (xPick b9D e5w (Value.bool false)) g1O fun e5x e5y =>
 xcond e5x
 (opK Tryd.prog E (xV (Instr.fieldAt 25 x1 1)) e5y fun e5z e5A =>
 opK Tryd.prog E (xV (Instr.loadAt 23 e5z)) e5A fun e5B e5C =>
 opK Tryd.prog E (xV (Instr.indexAt 23 e5B x5)) e5C fun e5D a7J =>
 opK Tryd.prog E (xV (Instr.loadAt 88 e5D)) a7J fun e5E d4Q =>
 opK Tryd.prog E (xCall (Value.func (.func 92) #[] #[]) [x3, e5E, (Value.int .i64 1)]) d4Q fun _t37_42 c8S =>
 opK Tryd.prog E (xBin .add 3 (.tmp 30) (.const (Value.int .i64 1)) x5 (Value.int .i64 1)) c8S fun e5F c8T =>
 next3 [e5F] c8T)
 (j2 [] e5y)
def c4a (x1 x2 x3 : Value) (w : World) (R : Value → World → Prop) (E : Pan) : Prop :=
 ∀ _τ : Fr, (xcut (fun _ a5c => c3Z x2 x3 a5c R E) fun j2 =>
 xloop [5] [(Value.int .i64 0)] w fun τ_46 a6o next3 =>
 d2V x1 x2 x3 (τ_46 5) a6o next3 j2 R E)
def d2W (x1 _x2 x3 x4 : Value) (w : World) (next4 : List Value → World → Prop) (j1 : List Value → World → Prop) (_R : Value → World → Prop) (E : Pan) : Prop :=
 opK Tryd.prog E (xV (Instr.fieldAt 25 x1 0)) w fun f8n e5G =>
 opK Tryd.prog E (xV (Instr.loadAt 22 f8n)) e5G fun f8o e5H =>
 opK Tryd.prog E (xBuiltin .len #[22] 3 [false] [f8o]) e5H fun e5I d4R =>
 opK Tryd.prog E (xBin .lss 3 (.tmp 7) (.tmp 10) x4 e5I) d4R fun b9E e5J =>
 opK Tryd.prog E (gsem (asB b9E) true (xV (Instr.fieldAt 99 x3 2))) e5J fun e5K g1P =>
 opK Tryd.prog E (gsem (asB b9E) true (xV (Instr.loadAt 3 e5K))) g1P fun e5L c4b =>
 opK Tryd.prog E (gsem (asB b9E) true (xBin .eql 3 (.tmp 14) (.const (Value.int .i64 0)) e5L (Value.int .i64 0))) c4b fun e5M e5N =>
 opK Tryd.prog E (xPick b9E e5M (Value.bool false)) e5N fun e5O b6f =>
 xcond e5O
 (opK Tryd.prog E (xCall (Value.func (.func 91) #[] #[]) [x3, (Value.int .i64 1)]) b6f fun _t19_66 b6g =>
 opK Tryd.prog E (xBin .add 3 (.tmp 17) (.const (Value.int .i64 1)) x4 (Value.int .i64 1)) b6g fun e5P g1Q =>
 next4 [e5P] g1Q)
 (j1 [] b6f)
def F63 (x0 : Value) (w : World) (R : Value → World → Prop) (E : Pan) : Prop :=
 opK Tryd.prog E (xV (Instr.box 25 x0)) w fun t6 w_2 =>
 opK Tryd.prog E (xV (Instr.alloc 99 true (.tuple #[]))) w_2 fun c8R w_4 =>
 opK Tryd.prog E (xV (Instr.build 99 #[])) w_4 fun a2Q w_6 =>
 opK Tryd.prog E (xV (Instr.alloc 99 true (.tuple #[]))) w_6 fun b8h w_8 =>
 opK Tryd.prog E (xU (Instr.storeAt 99 b8h a2Q)) w_8 fun _z_9 m1 =>
 xcut (fun _ d4S => c4a t6 c8R b8h d4S R E) fun j1 =>
 xloop [4] [(Value.int .i64 0)] m1 fun τ_70 g1R next4 =>
 d2W t6 c8R b8h (τ_70 4) g1R next4 j1 R E
noncomputable def c63 : Code := Tryd.f63.body.getD .skip
def h63 : Hint := (.seq .none (.seq .none (.cut [] (.seq .none (.block (.loop [4] (.seq (.seq .none (.cond .none .none)) (.seq (.block .none) .none))))) (.cut [] (.seq .none (.block (.loop [5] (.seq (.seq .none (.cond .none .none)) (.seq (.block .none) .none))))) (.seq .none .none)))))
theorem e5Q (x0 : Value) (w : World) (R : Value → World → Prop) (E : Pan) : F63 x0 w R E = callX Tryd.prog [.cell 2 99] c63 h63 [x0] w R E := by kernel_rfl
theorem e5R {x0 : Value} {w : World} {R : Value → World → Prop} {E : Pan} (h : F63 x0 w R E) : Cv Tryd.prog 63 #[x0] w R E := by
 refine g8 (args := [x0]) (c := c63) (h := h63) (rs := [.cell 2 99]) Tryd.func63 (by kernel_rfl) (by kernel_rfl) (Nat.le_of_ble_eq_true (by kernel_rfl)) (by kernel_rfl) (by kernel_rfl) (by kernel_rfl) ?_
 rw [← e5Q]
 exact h
def F66 (x0 : Value) (w : World) (R : Value → World → Prop) (E : Pan) : Prop :=
 opK Tryd.prog E (xV (Instr.box 25 x0)) w fun t6 w_2 =>
 dX w_2 fun w_3 =>
 qP Tryd.prog (xV (Instr.fieldAt 25 t6 0)) fun c1b =>
 qP Tryd.prog (xV (Instr.fieldAt 25 t6 1)) fun a2Q =>
 qL Tryd.prog w_3 (blk c1b) (xV (Instr.loadAt 22 c1b)) fun g1S =>
 qL Tryd.prog w_3 (blk a2Q) (xV (Instr.loadAt 23 a2Q)) fun b0X =>
 opK Tryd.prog E (xCall (Value.func (.func 95) #[] #[]) [g1S, (Value.func (.func 96) #[] #[])]) w_3 fun d4T w_9 =>
 keepX [(blk a2Q)] w_3 w_9 (opK Tryd.prog E (xCall (Value.func (.func 97) #[] #[]) [b0X, (Value.func (.func 98) #[] #[])]) w_9 fun c8U Y2 =>
 keepX [] w_9 Y2 (opK Tryd.prog E (xV (Instr.buildSlice 172 2 #[(0, d4T), (1, c8U)])) Y2 fun c8O V5 =>
 keepX [] Y2 V5 (opK Tryd.prog E (xCall (Value.func (.func 94) #[] #[]) [c8O]) V5 fun e5S a1C =>
 keepX [] V5 a1C (opK Tryd.prog E (xCall (Value.func (.func 57) #[] #[]) [e5S]) a1C fun e5T a5c =>
 keepX [] a1C a5c (R e5T a5c)))))
noncomputable def c66 : Code := Tryd.f66.body.getD .skip
def h66 : Hint := (.seq .none (.seq (.reg [(0, 8, 2), (1, 16, 8), (2, 32, 16), (0, 64, 2), (8, 128, 64), (20, 256, 128), (36, 512, 288), (96, 1024, 512), (128, 2048, 1024), (511, 4, 2048)] [18, 16, 16, 18, 2, 0, 0, 0, 0, 18] (.early 0 (.early 3 (.load 1 (.load 4 (.step 2 (.step 5 (.step 6 (.step 7 (.step 8 (.early 9 .done))))))))))) .none))
theorem e5U (x0 : Value) (w : World) (R : Value → World → Prop) (E : Pan) : F66 x0 w R E = callX Tryd.prog [.tmp 2] c66 h66 [x0] w R E := by kernel_rfl
theorem e5V {x0 : Value} {w : World} {R : Value → World → Prop} {E : Pan} (h : F66 x0 w R E) : Cv Tryd.prog 66 #[x0] w R E := by
 refine g8 (args := [x0]) (c := c66) (h := h66) (rs := [.tmp 2]) Tryd.func66 (by kernel_rfl) (by kernel_rfl) (Nat.le_of_ble_eq_true (by kernel_rfl)) (by kernel_rfl) (by kernel_rfl) (by kernel_rfl) ?_
 rw [← e5U]
 exact h
def c4c (w : World) (R : Value → World → Prop) (_E : Pan) : Prop :=
 ∀ _τ : Fr, (R (Value.bool true) w)
def d2X (x1 x2 x15 x16 x17 : Value) (w : World) (next2 : List Value → World → Prop) (j1 : List Value → World → Prop) (R : Value → World → Prop) (E : Pan) : Prop :=
 opK Tryd.prog E (xBin .lss 3 (.tmp 17) (.tmp 16) x17 x16) w fun b5T k6 =>
 xcond b5T
 (opK Tryd.prog E (xV (Instr.indexAt 28 x15 x17)) k6 fun b5U o3 =>
 opK Tryd.prog E (xV (Instr.loadAt 30 b5U)) o3 fun b5V q7 =>
 opK Tryd.prog E (xV (Instr.alloc 30 true (.tuple #[]))) q7 fun b2C r6 =>
 opK Tryd.prog E (xU (Instr.storeAt 30 b2C b5V)) r6 fun _z_19 o7 =>
 opK Tryd.prog E (xV (Instr.indexAt 28 x1 x17)) o7 fun b5W r7 =>
 opK Tryd.prog E (xV (Instr.loadAt 30 b5W)) r7 fun b5X r5 =>
 opK Tryd.prog E (xV (Instr.alloc 30 true (.tuple #[]))) r5 fun b2D u6 =>
 opK Tryd.prog E (xU (Instr.storeAt 30 b2D b5X)) u6 fun _z_27 v8 =>
 opK Tryd.prog E (xV (Instr.loadAt 30 b2C)) v8 fun b0Z t7 =>
 opK Tryd.prog E (xV (Instr.loadAt 30 b2D)) t7 fun a4e y8 =>
 opK Tryd.prog E (xCall x2 [b0Z, a4e]) y8 fun b5Y A8 =>
 opK Tryd.prog E (xV (Op.unary .not b5Y)) A8 fun b5Z B2 =>
 xcond b5Z
 (R (Value.bool false) B2)
 (opK Tryd.prog E (xBin .add 3 (.tmp 17) (.const (Value.int .i64 1)) x17 (Value.int .i64 1)) B2 fun b1a v2 =>
 next2 [b1a] v2))
 (j1 [] k6)
def F83 (x0 x1 x2 : Value) (w : World) (R : Value → World → Prop) (E : Pan) : Prop :=
 opK Tryd.prog E (xBuiltin .len #[28] 3 [false] [x0]) w fun b9y w_2 =>
 opK Tryd.prog E (xBuiltin .len #[28] 3 [false] [x1]) w_2 fun b0h w_4 =>
 opK Tryd.prog E (xBin .neq 3 (.tmp 11) (.tmp 13) b9y b0h) w_4 fun b0i w_6 =>
 xcond b0i
 (R (Value.bool false) w_6)
 (xcut (fun _ w_8 => c4c w_8 R E) fun j1 =>
 opK Tryd.prog E (xBuiltin .len #[28] 3 [false] [x0]) w_6 fun b9z m1 =>
 xloop [17] [(Value.int .i64 0)] m1 fun τ_39 C3 next2 =>
 d2X x1 x2 x0 b9z (τ_39 17) C3 next2 j1 R E)
noncomputable def c83 : Code := Tryd.f83.body.getD .skip
def h83 : Hint := (.seq .none (.seq (.seq .none (.cond (.seq .none .none) .none)) (.cut [] (.seq .none (.block (.loop [17] (.seq .none (.seq (.cond .none .none) (.seq (.block (.seq .none (.seq .none (.seq .none (.cond (.seq .none .none) .none))))) .none)))))) (.seq .none .none))))
theorem e5W (x0 x1 x2 : Value) (w : World) (R : Value → World → Prop) (E : Pan) : F83 x0 x1 x2 w R E = callX Tryd.prog [.tmp 6] c83 h83 [x0, x1, x2] w R E := by kernel_rfl
theorem e5X {x0 x1 x2 : Value} {w : World} {R : Value → World → Prop} {E : Pan} (h : F83 x0 x1 x2 w R E) : Cv Tryd.prog 83 #[x0, x1, x2] w R E := by
 refine g8 (args := [x0, x1, x2]) (c := c83) (h := h83) (rs := [.tmp 6]) Tryd.func83 (by kernel_rfl) (by kernel_rfl) (Nat.le_of_ble_eq_true (by kernel_rfl)) (by kernel_rfl) (by kernel_rfl) (by kernel_rfl) ?_
 rw [← e5W]
 exact h
def F84 (x0 x1 : Value) (w : World) (R : Value → World → Prop) (E : Pan) : Prop :=
 opK Tryd.prog E (xV (Instr.box 30 x0)) w fun V4 w_2 =>
 opK Tryd.prog E (xV (Instr.box 30 x1)) w_2 fun F7 w_4 =>
 opK Tryd.prog E (xV (Instr.fieldAt 30 V4 0)) w_4 fun a7E w_6 =>
 opK Tryd.prog E (xV (Instr.loadAt 3 a7E)) w_6 fun a8O w_8 =>
 opK Tryd.prog E (xV (Instr.fieldAt 30 F7 0)) w_8 fun b8g m1 =>
 opK Tryd.prog E (xV (Instr.loadAt 3 b8g)) m1 fun a7G k6 =>
 opK Tryd.prog E (xBin .eql 3 (.tmp 6) (.tmp 8) a8O a7G) k6 fun V9 o3 =>
 opK Tryd.prog E (gsem (asB V9) true (xV (Instr.fieldAt 30 V4 1))) o3 fun a4I q7 =>
 opK Tryd.prog E (gsem (asB V9) true (xV (Instr.loadAt 2 a4I))) q7 fun a4J r6 =>
 opK Tryd.prog E (gsem (asB V9) true (xV (Instr.fieldAt 30 F7 1))) r6 fun a4K o7 =>
 opK Tryd.prog E (gsem (asB V9) true (xV (Instr.loadAt 2 a4K))) o7 fun a4L r7 =>
 opK Tryd.prog E (gsem (asB V9) true (xBin .eql 2 (.tmp 12) (.tmp 14) a4J a4L)) r7 fun a7H r5 =>
 opK Tryd.prog E (xPick V9 a7H (Value.bool false)) r5 fun a0f u6 =>
 opK Tryd.prog E (gsem (asB a0f) true (xV (Instr.fieldAt 30 V4 2))) u6 fun b1b v8 =>
 opK Tryd.prog E (gsem (asB a0f) true (xV (Instr.loadAt 9 b1b))) v8 fun b1c t7 =>
 opK Tryd.prog E (gsem (asB a0f) true (xV (Instr.fieldAt 30 F7 2))) t7 fun b1d y8 =>
 opK Tryd.prog E (gsem (asB a0f) true (xV (Instr.loadAt 9 b1d))) y8 fun b1e A8 =>
 opK Tryd.prog E (gsem (asB a0f) true (xBin .eql 9 (.tmp 19) (.tmp 21) b1c b1e)) A8 fun b1f B2 =>
 opK Tryd.prog E (xPick a0f b1f (Value.bool false)) B2 fun a0g v2 =>
 opK Tryd.prog E (gsem (asB a0g) true (xV (Instr.fieldAt 30 V4 3))) v2 fun b6a C3 =>
 opK Tryd.prog E (gsem (asB a0g) true (xV (Instr.loadAt 28 b6a))) C3 fun b6b G5 =>
 opK Tryd.prog E (gsem (asB a0g) true (xV (Instr.fieldAt 30 F7 3))) G5 fun b6c E5 =>
 opK Tryd.prog E (gsem (asB a0g) true (xV (Instr.loadAt 28 b6c))) E5 fun b6d K0 =>
 opK Tryd.prog E (gsem (asB a0g) true (xCall (Value.func (.func 83) #[] #[]) [b6b, b6d, (Value.func (.func 84) #[] #[])])) K0 fun b6e I8 =>
 opK Tryd.prog E (xPick a0g b6e (Value.bool false)) I8 fun a6z I9 =>
 R a6z I9
noncomputable def c84 : Code := Tryd.f84.body.getD .skip
def h84 : Hint := (.seq .none (.seq .none .none))
theorem e5Y (x0 x1 : Value) (w : World) (R : Value → World → Prop) (E : Pan) : F84 x0 x1 w R E = callX Tryd.prog [.tmp 4] c84 h84 [x0, x1] w R E := by kernel_rfl
theorem e5Z {x0 x1 : Value} {w : World} {R : Value → World → Prop} {E : Pan} (h : F84 x0 x1 w R E) : Cv Tryd.prog 84 #[x0, x1] w R E := by
 refine g8 (args := [x0, x1]) (c := c84) (h := h84) (rs := [.tmp 4]) Tryd.func84 (by kernel_rfl) (by kernel_rfl) (Nat.le_of_ble_eq_true (by kernel_rfl)) (by kernel_rfl) (by kernel_rfl) (by kernel_rfl) ?_
 rw [← e5Y]
 exact h
def c4d (w : World) (R : Value → World → Prop) (_E : Pan) : Prop :=
 ∀ _τ : Fr, (R (Value.bool true) w)
def d2Y (x1 x2 x15 x16 x17 : Value) (w : World) (next2 : List Value → World → Prop) (j1 : List Value → World → Prop) (R : Value → World → Prop) (E : Pan) : Prop :=
 opK Tryd.prog E (xBin .lss 3 (.tmp 17) (.tmp 16) x17 x16) w fun b5T k6 =>
 xcond b5T
 (opK Tryd.prog E (xV (Instr.indexAt 31 x15 x17)) k6 fun b5U o3 =>
 opK Tryd.prog E (xV (Instr.loadAt 33 b5U)) o3 fun b5V q7 =>
 opK Tryd.prog E (xV (Instr.alloc 33 true (.tuple #[]))) q7 fun b2C r6 =>
 opK Tryd.prog E (xU (Instr.storeAt 33 b2C b5V)) r6 fun _z_19 o7 =>
 opK Tryd.prog E (xV (Instr.indexAt 31 x1 x17)) o7 fun b5W r7 =>
 opK Tryd.prog E (xV (Instr.loadAt 33 b5W)) r7 fun b5X r5 =>
 opK Tryd.prog E (xV (Instr.alloc 33 true (.tuple #[]))) r5 fun b2D u6 =>
 opK Tryd.prog E (xU (Instr.storeAt 33 b2D b5X)) u6 fun _z_27 v8 =>
 opK Tryd.prog E (xV (Instr.loadAt 33 b2C)) v8 fun b0Z t7 =>
 opK Tryd.prog E (xV (Instr.loadAt 33 b2D)) t7 fun a4e y8 =>
 opK Tryd.prog E (xCall x2 [b0Z, a4e]) y8 fun b5Y A8 =>
 opK Tryd.prog E (xV (Op.unary .not b5Y)) A8 fun b5Z B2 =>
 xcond b5Z
 (R (Value.bool false) B2)
 (opK Tryd.prog E (xBin .add 3 (.tmp 17) (.const (Value.int .i64 1)) x17 (Value.int .i64 1)) B2 fun b1a v2 =>
 next2 [b1a] v2))
 (j1 [] k6)
def F85 (x0 x1 x2 : Value) (w : World) (R : Value → World → Prop) (E : Pan) : Prop :=
 opK Tryd.prog E (xBuiltin .len #[31] 3 [false] [x0]) w fun b9y w_2 =>
 opK Tryd.prog E (xBuiltin .len #[31] 3 [false] [x1]) w_2 fun b0h w_4 =>
 opK Tryd.prog E (xBin .neq 3 (.tmp 11) (.tmp 13) b9y b0h) w_4 fun b0i w_6 =>
 xcond b0i
 (R (Value.bool false) w_6)
 (xcut (fun _ w_8 => c4d w_8 R E) fun j1 =>
 opK Tryd.prog E (xBuiltin .len #[31] 3 [false] [x0]) w_6 fun b9z m1 =>
 xloop [17] [(Value.int .i64 0)] m1 fun τ_39 C3 next2 =>
 d2Y x1 x2 x0 b9z (τ_39 17) C3 next2 j1 R E)
noncomputable def c85 : Code := Tryd.f85.body.getD .skip
def h85 : Hint := (.seq .none (.seq (.seq .none (.cond (.seq .none .none) .none)) (.cut [] (.seq .none (.block (.loop [17] (.seq .none (.seq (.cond .none .none) (.seq (.block (.seq .none (.seq .none (.seq .none (.cond (.seq .none .none) .none))))) .none)))))) (.seq .none .none))))
theorem e6a (x0 x1 x2 : Value) (w : World) (R : Value → World → Prop) (E : Pan) : F85 x0 x1 x2 w R E = callX Tryd.prog [.tmp 6] c85 h85 [x0, x1, x2] w R E := by kernel_rfl
theorem e6b {x0 x1 x2 : Value} {w : World} {R : Value → World → Prop} {E : Pan} (h : F85 x0 x1 x2 w R E) : Cv Tryd.prog 85 #[x0, x1, x2] w R E := by
 refine g8 (args := [x0, x1, x2]) (c := c85) (h := h85) (rs := [.tmp 6]) Tryd.func85 (by kernel_rfl) (by kernel_rfl) (Nat.le_of_ble_eq_true (by kernel_rfl)) (by kernel_rfl) (by kernel_rfl) (by kernel_rfl) ?_
 rw [← e6a]
 exact h
def F86 (x0 x1 : Value) (w : World) (R : Value → World → Prop) (E : Pan) : Prop :=
 opK Tryd.prog E (xV (Instr.box 33 x0)) w fun V4 w_2 =>
 opK Tryd.prog E (xV (Instr.box 33 x1)) w_2 fun F7 w_4 =>
 opK Tryd.prog E (xV (Instr.fieldAt 33 V4 0)) w_4 fun a7E w_6 =>
 opK Tryd.prog E (xV (Instr.loadAt 3 a7E)) w_6 fun a8O w_8 =>
 opK Tryd.prog E (xV (Instr.fieldAt 33 F7 0)) w_8 fun b8g m1 =>
 opK Tryd.prog E (xV (Instr.loadAt 3 b8g)) m1 fun a7G k6 =>
 opK Tryd.prog E (xBin .eql 3 (.tmp 6) (.tmp 8) a8O a7G) k6 fun V9 o3 =>
 opK Tryd.prog E (gsem (asB V9) true (xV (Instr.fieldAt 33 V4 1))) o3 fun a4I q7 =>
 opK Tryd.prog E (gsem (asB V9) true (xV (Instr.loadAt 3 a4I))) q7 fun a4J r6 =>
 opK Tryd.prog E (gsem (asB V9) true (xV (Instr.fieldAt 33 F7 1))) r6 fun a4K o7 =>
 opK Tryd.prog E (gsem (asB V9) true (xV (Instr.loadAt 3 a4K))) o7 fun a4L r7 =>
 opK Tryd.prog E (gsem (asB V9) true (xBin .eql 3 (.tmp 12) (.tmp 14) a4J a4L)) r7 fun a7H r5 =>
 opK Tryd.prog E (xPick V9 a7H (Value.bool false)) r5 fun a0f u6 =>
 opK Tryd.prog E (gsem (asB a0f) true (xV (Instr.fieldAt 33 V4 2))) u6 fun b1b v8 =>
 opK Tryd.prog E (gsem (asB a0f) true (xV (Instr.loadAt 28 b1b))) v8 fun b1c t7 =>
 opK Tryd.prog E (gsem (asB a0f) true (xV (Instr.fieldAt 33 F7 2))) t7 fun b1d y8 =>
 opK Tryd.prog E (gsem (asB a0f) true (xV (Instr.loadAt 28 b1d))) y8 fun b1e A8 =>
 opK Tryd.prog E (gsem (asB a0f) true (xCall (Value.func (.func 83) #[] #[]) [b1c, b1e, (Value.func (.func 84) #[] #[])])) A8 fun b1f B2 =>
 opK Tryd.prog E (xPick a0f b1f (Value.bool false)) B2 fun a0g v2 =>
 opK Tryd.prog E (gsem (asB a0g) true (xV (Instr.fieldAt 33 V4 3))) v2 fun b6a C3 =>
 opK Tryd.prog E (gsem (asB a0g) true (xV (Instr.loadAt 31 b6a))) C3 fun b6b G5 =>
 opK Tryd.prog E (gsem (asB a0g) true (xV (Instr.fieldAt 33 F7 3))) G5 fun b6c E5 =>
 opK Tryd.prog E (gsem (asB a0g) true (xV (Instr.loadAt 31 b6c))) E5 fun b6d K0 =>
 opK Tryd.prog E (gsem (asB a0g) true (xCall (Value.func (.func 85) #[] #[]) [b6b, b6d, (Value.func (.func 86) #[] #[])])) K0 fun b6e I8 =>
 opK Tryd.prog E (xPick a0g b6e (Value.bool false)) I8 fun a6z I9 =>
 R a6z I9
noncomputable def c86 : Code := Tryd.f86.body.getD .skip
def h86 : Hint := (.seq .none (.seq .none .none))
theorem e6c (x0 x1 : Value) (w : World) (R : Value → World → Prop) (E : Pan) : F86 x0 x1 w R E = callX Tryd.prog [.tmp 4] c86 h86 [x0, x1] w R E := by kernel_rfl
theorem e6d {x0 x1 : Value} {w : World} {R : Value → World → Prop} {E : Pan} (h : F86 x0 x1 w R E) : Cv Tryd.prog 86 #[x0, x1] w R E := by
 refine g8 (args := [x0, x1]) (c := c86) (h := h86) (rs := [.tmp 4]) Tryd.func86 (by kernel_rfl) (by kernel_rfl) (Nat.le_of_ble_eq_true (by kernel_rfl)) (by kernel_rfl) (by kernel_rfl) (by kernel_rfl) ?_
 rw [← e6c]
 exact h
def c4e (w : World) (R : Value → World → Prop) (_E : Pan) : Prop :=
 ∀ _τ : Fr, (R (Value.bool true) w)
def d2Z (x1 x2 x3 x9 x10 x11 : Value) (w : World) (next2 : List Value → World → Prop) (j1 : List Value → World → Prop) (R : Value → World → Prop) (E : Pan) : Prop :=
 opK Tryd.prog E (xBin .lss 3 (.tmp 11) (.tmp 10) x11 x10) w fun b4d w_6 =>
 xcond b4d
 (opK Tryd.prog E (xV (Instr.indexAt 97 x9 x11)) w_6 fun b4e w_8 =>
 opK Tryd.prog E (xV (Instr.loadAt 141 b4e)) w_8 fun a7K m1 =>
 dX m1 fun Y2 =>
 qL Tryd.prog Y2 (blk x2) (xV (Instr.loadAt 93 x2)) fun e6e =>
 opK Tryd.prog E (xCall (Value.func (.func 90) #[] #[]) [e6e, a7K, x1]) Y2 fun a5t o3 =>
 keepX [] Y2 o3 (qP Tryd.prog (xV (Op.unary .not a5t)) fun a4M =>
 qP Tryd.prog (gsem (asB a4M) false (xBin .add 3 (.tmp 24) (.const (Value.int .i64 1)) (gval (asB a4M) false x1) (Value.int .i64 1))) fun e6f =>
 qL Tryd.prog o3 (blk x3) (gsem (asB a4M) false (xV (Instr.loadAt 139 x3))) fun e6g =>
 opK Tryd.prog E (gsem (asB a4M) false (xInvoke (gval (asB a4M) false a7K) "gnomon/tree.parts" [])) o3 fun e6h a5L =>
 keepX [(blk x3)] o3 a5L (opK Tryd.prog E (gsem (asB a4M) false (xCall e6g [e6h, e6f])) a5L fun e6i a0q =>
 keepX [] a5L a0q (qP Tryd.prog (gsem (asB a4M) false (xV (Op.unary .not e6i))) fun e6j =>
 qP Tryd.prog (xPick a4M (Value.bool true) e6j) fun a3v =>
 xcond a3v
 (R (Value.bool false) a0q)
 (opK Tryd.prog E (xBin .add 3 (.tmp 11) (.const (Value.int .i64 1)) x11 (Value.int .i64 1)) a0q fun e6k a6m =>
 next2 [e6k] a6m)))))
 (j1 [] w_6)
def F89 (x0 x1 x2 x3 : Value) (w : World) (R : Value → World → Prop) (E : Pan) : Prop :=
 xcut (fun _ w_2 => c4e w_2 R E) fun j1 =>
 opK Tryd.prog E (xBuiltin .len #[97] 3 [false] [x0]) w fun b4c w_4 =>
 xloop [11] [(Value.int .i64 0)] w_4 fun τ_26 a8Q next2 =>
 d2Z x1 x2 x3 x0 b4c (τ_26 11) a8Q next2 j1 R E
noncomputable def c89 : Code := Tryd.f89.body.getD .skip
def h89 : Hint := (.seq .none (.cut [] (.seq .none (.block (.loop [11] (.seq .none (.seq (.cond .none .none) (.seq (.block (.seq .none (.seq (.reg [(0, 32768, 4), (0, 65536, 256), (0, 131072, 2), (7, 262144, 229376), (8, 524288, 262144), (24, 1048576, 524288), (32, 2097152, 1048584), (32, 4194304, 1048832), (160, 8388608, 5242880), (32, 16777216, 1048578), (544, 33554432, 17825792), (1376, 67108864, 45088768), (2080, 134217728, 68157440), (4128, 268435456, 135266304)] [64, 65, 65, 0, 65, 65, 1, 65, 64, 65, 65, 0, 65, 65] (.early 1 (.early 2 (.load 0 (.step 3 (.early 4 (.early 5 (.early 7 (.early 9 (.early 10 (.load 6 (.step 8 (.step 11 (.early 12 (.early 13 .done))))))))))))))) (.cond (.seq .none .none) .none)))) .none)))))) (.seq .none .none)))
theorem e6l (x0 x1 x2 x3 : Value) (w : World) (R : Value → World → Prop) (E : Pan) : F89 x0 x1 x2 x3 w R E = callX Tryd.prog [.tmp 6] c89 h89 [x0, x1, x2, x3] w R E := by kernel_rfl
theorem e6m {x0 x1 x2 x3 : Value} {w : World} {R : Value → World → Prop} {E : Pan} (h : F89 x0 x1 x2 x3 w R E) : Cv Tryd.prog 89 #[x0, x1, x2, x3] w R E := by
 refine g8 (args := [x0, x1, x2, x3]) (c := c89) (h := h89) (rs := [.tmp 6]) Tryd.func89 (by kernel_rfl) (by kernel_rfl) (Nat.le_of_ble_eq_true (by kernel_rfl)) (by kernel_rfl) (by kernel_rfl) (by kernel_rfl) ?_
 rw [← e6l]
 exact h
def c4f (w : World) (R : Value → World → Prop) (_E : Pan) : Prop :=
 ∀ _τ : Fr, (R (Value.bool true) w)
def F90 (x0 x1 x2 : Value) (w : World) (R : Value → World → Prop) (E : Pan) : Prop :=
 opK Tryd.prog E (xNil x0) w fun b7f w_2 =>
 opK Tryd.prog E (xV (Instr.fieldAt 92 b7f 0)) w_2 fun c8V w_4 =>
 opK Tryd.prog E (xV (Instr.loadAt 3 c8V)) w_4 fun b4d w_6 =>
 opK Tryd.prog E (xBin .add 3 (.tmp 12) (.const (Value.int .i64 1)) b4d (Value.int .i64 1)) w_6 fun b4e w_8 =>
 opK Tryd.prog E (xNil x0) w_8 fun a7K m1 =>
 opK Tryd.prog E (xV (Instr.fieldAt 92 a7K 0)) m1 fun b6h k6 =>
 opK Tryd.prog E (xU (Instr.storeAt 3 b6h b4e)) k6 fun _z_13 o3 =>
 opK Tryd.prog E (xNil x0) o3 fun b6i q7 =>
 opK Tryd.prog E (xV (Instr.fieldAt 92 b6i 0)) q7 fun e6n r6 =>
 opK Tryd.prog E (xV (Instr.loadAt 3 e6n)) r6 fun c3F o7 =>
 opK Tryd.prog E (xBin .gtr 3 (.tmp 19) (.const (Value.int .i64 4096)) c3F (Value.int .i64 4096)) o7 fun b0P r7 =>
 xcond b0P
 (opK Tryd.prog E (xNil x0) r7 fun c3V r5 =>
 opK Tryd.prog E (xV (Instr.fieldAt 92 c3V 2)) r5 fun e6o u6 =>
 opK Tryd.prog E (xU (Instr.storeAt 34 e6o (Value.int .i64 33))) u6 fun _z_27 v8 =>
 R (Value.bool false) v8)
 (opK Tryd.prog E (xBin .gtr 3 (.tmp 24) (.const (Value.int .i64 64)) x2 (Value.int .i64 64)) r7 fun e6p t7 =>
 xcond e6p
 (opK Tryd.prog E (xNil x0) t7 fun e6q y8 =>
 opK Tryd.prog E (xV (Instr.fieldAt 92 e6q 2)) y8 fun e6r A8 =>
 opK Tryd.prog E (xU (Instr.storeAt 34 e6r (Value.int .i64 32))) A8 fun _z_35 B2 =>
 R (Value.bool false) B2)
 (opK Tryd.prog E (xNil x0) t7 fun b1a v2 =>
 opK Tryd.prog E (xV (Instr.fieldAt 92 b1a 1)) v2 fun e6s C3 =>
 opK Tryd.prog E (xV (Instr.loadAt 3 e6s)) C3 fun e6t G5 =>
 opK Tryd.prog E (xBuiltin .max #[3, 3] 3 [false, false] [e6t, x2]) G5 fun e6u E5 =>
 opK Tryd.prog E (xNil x0) E5 fun e6v K0 =>
 opK Tryd.prog E (xV (Instr.fieldAt 92 e6v 1)) K0 fun e6w I8 =>
 opK Tryd.prog E (xU (Instr.storeAt 3 e6w e6u)) I8 fun _z_49 I9 =>
 opK Tryd.prog E (xNil x0) I9 fun e6x O7 =>
 opK Tryd.prog E (xV (Instr.fieldAt 92 e6x 3)) O7 fun e6y P6 =>
 opK Tryd.prog E (xV (Instr.loadAt 4 e6y)) P6 fun b9F L4 =>
 opK Tryd.prog E (gsem (asB b9F) false (xInvoke (gval (asB b9F) false x1) "gnomon/tree.form" [])) L4 fun e6z P7 =>
 opK Tryd.prog E (gsem (asB b9F) false (xV (Op.unary .not e6z))) P7 fun e6A W5 =>
 opK Tryd.prog E (xPick b9F (Value.bool true) e6A) W5 fun e6B a0o =>
 opK Tryd.prog E (xNil x0) a0o fun e6C V6 =>
 opK Tryd.prog E (xV (Instr.fieldAt 92 e6C 3)) V6 fun e6D a0p =>
 opK Tryd.prog E (xU (Instr.storeAt 4 e6D e6B)) a0p fun _z_67 a0F =>
 xcut (fun _ O8 => c4f O8 R E) fun j1 =>
 opK Tryd.prog E (xCall (Value.func (.func 114) #[] #[]) [x1]) a0F fun d3a a0G =>
 opK Tryd.prog E (xV (Instr.extract d3a 0)) a0G fun b6j a1h =>
 opK Tryd.prog E (xV (Instr.extract d3a 1)) a1h fun e6E a1i =>
 xcond e6E
 (opK Tryd.prog E (xNil x0) a1i fun e6F a1Q =>
 opK Tryd.prog E (xV (Instr.fieldAt 92 e6F 4)) a1Q fun e6G a1R =>
 opK Tryd.prog E (xV (Instr.loadAt 4 e6G)) a1R fun b1g a2D =>
 opK Tryd.prog E (gsem (asB b1g) false (xCall (Value.func (.func 115) #[] #[]) [(gval (asB b1g) false b6j)])) a2D fun e6H a2R =>
 opK Tryd.prog E (gsem (asB b1g) false (xV (Op.unary .not e6H))) a2R fun e6I a2S =>
 opK Tryd.prog E (xPick b1g (Value.bool true) e6I) a2S fun e6J a2T =>
 opK Tryd.prog E (xNil x0) a2T fun e6K a4N =>
 opK Tryd.prog E (xV (Instr.fieldAt 92 e6K 4)) a4N fun e6L a4O =>
 opK Tryd.prog E (xU (Instr.storeAt 4 e6L e6J)) a4O fun _z_93 a4r =>
 opK Tryd.prog E (xNil x0) a4r fun e6M a3R =>
 opK Tryd.prog E (xV (Instr.fieldAt 92 e6M 5)) a3R fun e6N a4P =>
 opK Tryd.prog E (xV (Instr.loadAt 47 e6N)) a4P fun e6O a2J =>
 opK Tryd.prog E (xCall (Value.func (.func 116) #[] #[]) [e6O, b6j]) a2J fun d9D a2K =>
 opK Tryd.prog E (xV (Op.unary .not d9D)) a2K fun d9E a3D =>
 xcond d9E
 (opK Tryd.prog E (xNil x0) a3D fun d9F a4f =>
 opK Tryd.prog E (xV (Instr.fieldAt 92 d9F 5)) a4f fun d9G a5d =>
 opK Tryd.prog E (xV (Instr.loadAt 47 d9G)) a5d fun d9H a4y =>
 opK Tryd.prog E (xV (Instr.buildSlice 47 1 #[(0, b6j)])) a4y fun d9I a4z =>
 opK Tryd.prog E (xBuiltin .append #[47, 47] 47 [false, false] [d9H, d9I]) a4z fun d9J a5e =>
 opK Tryd.prog E (xNil x0) a5e fun d9K a5C =>
 opK Tryd.prog E (xV (Instr.fieldAt 92 d9K 5)) a5C fun d9L a5D =>
 opK Tryd.prog E (xU (Instr.storeAt 47 d9L d9J)) a5D fun _z_119 a5E =>
 j1 [] a5E)
 (j1 [] a3D))
 (j1 [] a1i)))
noncomputable def c90 : Code := Tryd.f90.body.getD .skip
def h90 : Hint := (.seq .none (.seq (.seq .none (.seq .none (.cond (.seq .none (.seq .none .none)) .none))) (.seq (.seq .none (.cond (.seq .none (.seq .none .none)) .none)) (.seq .none (.seq .none (.cut [] (.seq .none (.seq .none (.cond (.seq .none (.seq .none (.cond .none .none))) .none))) (.seq .none .none)))))))
theorem e6P (x0 x1 x2 : Value) (w : World) (R : Value → World → Prop) (E : Pan) : F90 x0 x1 x2 w R E = callX Tryd.prog [.tmp 6] c90 h90 [x0, x1, x2] w R E := by kernel_rfl
theorem e6Q {x0 x1 x2 : Value} {w : World} {R : Value → World → Prop} {E : Pan} (h : F90 x0 x1 x2 w R E) : Cv Tryd.prog 90 #[x0, x1, x2] w R E := by
 refine g8 (args := [x0, x1, x2]) (c := c90) (h := h90) (rs := [.tmp 6]) Tryd.func90 (by kernel_rfl) (by kernel_rfl) (Nat.le_of_ble_eq_true (by kernel_rfl)) (by kernel_rfl) (by kernel_rfl) (by kernel_rfl) ?_
 rw [← e6P]
 exact h
def F91 (x0 x1 : Value) (w : World) (R : Value → World → Prop) (E : Pan) : Prop :=
 opK Tryd.prog E (xNil x0) w fun a7B w_2 =>
 opK Tryd.prog E (xV (Instr.fieldAt 99 a7B 2)) w_2 fun a7C w_4 =>
 opK Tryd.prog E (xV (Instr.loadAt 3 a7C)) w_4 fun c3C w_6 =>
 opK Tryd.prog E (xBin .neq 3 (.tmp 8) (.const (Value.int .i64 0)) c3C (Value.int .i64 0)) w_6 fun d4O w_8 =>
 xcond d4O
 (R (Value.bool false) w_8)
 (opK Tryd.prog E (xNil x0) w_8 fun c8P m1 =>
 opK Tryd.prog E (xV (Instr.fieldAt 99 c8P 0)) m1 fun b9v k6 =>
 opK Tryd.prog E (xV (Instr.loadAt 3 b9v)) k6 fun c3D o3 =>
 opK Tryd.prog E (xBin .eql 3 (.tmp 13) (.const (Value.int .i64 4096)) c3D (Value.int .i64 4096)) o3 fun c3E q7 =>
 xcond c3E
 (opK Tryd.prog E (xNil x0) q7 fun b0Q r6 =>
 opK Tryd.prog E (xV (Instr.fieldAt 99 b0Q 2)) r6 fun a7z o7 =>
 opK Tryd.prog E (xU (Instr.storeAt 3 a7z (Value.int .i64 33))) o7 fun _z_21 r7 =>
 R (Value.bool false) r7)
 (opK Tryd.prog E (xBin .gtr 3 (.tmp 18) (.const (Value.int .i64 64)) x1 (Value.int .i64 64)) q7 fun a7F r5 =>
 xcond a7F
 (opK Tryd.prog E (xNil x0) r5 fun e6R u6 =>
 opK Tryd.prog E (xV (Instr.fieldAt 99 e6R 2)) u6 fun e6S v8 =>
 opK Tryd.prog E (xU (Instr.storeAt 3 e6S (Value.int .i64 32))) v8 fun _z_29 t7 =>
 R (Value.bool false) t7)
 (opK Tryd.prog E (xNil x0) r5 fun e6T y8 =>
 opK Tryd.prog E (xV (Instr.fieldAt 99 e6T 0)) y8 fun e6U A8 =>
 opK Tryd.prog E (xV (Instr.loadAt 3 e6U)) A8 fun e6V B2 =>
 opK Tryd.prog E (xBin .add 3 (.tmp 26) (.const (Value.int .i64 1)) e6V (Value.int .i64 1)) B2 fun c4g v2 =>
 opK Tryd.prog E (xNil x0) v2 fun b1h C3 =>
 opK Tryd.prog E (xV (Instr.fieldAt 99 b1h 0)) C3 fun e6W G5 =>
 opK Tryd.prog E (xU (Instr.storeAt 3 e6W c4g)) G5 fun _z_43 E5 =>
 opK Tryd.prog E (xNil x0) E5 fun c4h K0 =>
 opK Tryd.prog E (xV (Instr.fieldAt 99 c4h 1)) K0 fun c4i I8 =>
 opK Tryd.prog E (xV (Instr.loadAt 3 c4i)) I8 fun c4j I9 =>
 opK Tryd.prog E (xBuiltin .max #[3, 3] 3 [false, false] [c4j, x1]) I9 fun e6X O7 =>
 opK Tryd.prog E (xNil x0) O7 fun e6Y P6 =>
 opK Tryd.prog E (xV (Instr.fieldAt 99 e6Y 1)) P6 fun e6Z L4 =>
 opK Tryd.prog E (xU (Instr.storeAt 3 e6Z e6X)) L4 fun _z_57 P7 =>
 R (Value.bool true) P7)))
noncomputable def c91 : Code := Tryd.f91.body.getD .skip
def h91 : Hint := (.seq .none (.seq (.seq .none (.cond (.seq .none .none) .none)) (.seq (.seq .none (.cond (.seq .none (.seq .none .none)) .none)) (.seq (.seq .none (.cond (.seq .none (.seq .none .none)) .none)) (.seq .none (.seq .none (.seq .none .none)))))))
theorem e7a (x0 x1 : Value) (w : World) (R : Value → World → Prop) (E : Pan) : F91 x0 x1 w R E = callX Tryd.prog [.tmp 4] c91 h91 [x0, x1] w R E := by kernel_rfl
theorem e7b {x0 x1 : Value} {w : World} {R : Value → World → Prop} {E : Pan} (h : F91 x0 x1 w R E) : Cv Tryd.prog 91 #[x0, x1] w R E := by
 refine g8 (args := [x0, x1]) (c := c91) (h := h91) (rs := [.tmp 4]) Tryd.func91 (by kernel_rfl) (by kernel_rfl) (Nat.le_of_ble_eq_true (by kernel_rfl)) (by kernel_rfl) (by kernel_rfl) (by kernel_rfl) ?_
 rw [← e7a]
 exact h
def d3b (x0 x2 x4 x9 : Value) (w : World) (next4 : List Value → World → Prop) (R : Value → World → Prop) (E : Pan) : Prop :=
 opK Tryd.prog E (xV (Instr.fieldAt 88 x4 5)) w fun f8p w_8 =>
 opK Tryd.prog E (xV (Instr.loadAt 23 f8p)) w_8 fun f8q m1 =>
 opK Tryd.prog E (xBuiltin .len #[23] 3 [false] [f8q]) m1 fun e7c k6 =>
 opK Tryd.prog E (xBin .lss 3 (.tmp 83) (.tmp 86) x9 e7c) k6 fun b3u o3 =>
 opK Tryd.prog E (gsem (asB b3u) true (xNil (gval (asB b3u) true x0))) o3 fun e7d q7 =>
 opK Tryd.prog E (gsem (asB b3u) true (xV (Instr.fieldAt 99 e7d 2))) q7 fun e7e r6 =>
 opK Tryd.prog E (gsem (asB b3u) true (xV (Instr.loadAt 3 e7e))) r6 fun e7f o7 =>
 opK Tryd.prog E (gsem (asB b3u) true (xBin .eql 3 (.tmp 92) (.const (Value.int .i64 0)) e7f (Value.int .i64 0))) o7 fun e7g r7 =>
 opK Tryd.prog E (xPick b3u e7g (Value.bool false)) r7 fun e7h r5 =>
 xcond e7h
 (opK Tryd.prog E (xV (Instr.fieldAt 88 x4 5)) r5 fun e7i u6 =>
 opK Tryd.prog E (xV (Instr.loadAt 23 e7i)) u6 fun e7j v8 =>
 opK Tryd.prog E (xV (Instr.indexAt 23 e7j x9)) v8 fun d9M t7 =>
 opK Tryd.prog E (xV (Instr.loadAt 88 d9M)) t7 fun d9N y8 =>
 opK Tryd.prog E (xBin .add 3 (.tmp 103) (.const (Value.int .i64 1)) x2 (Value.int .i64 1)) y8 fun d9O A8 =>
 opK Tryd.prog E (xCall (Value.func (.func 92) #[] #[]) [x0, d9N, d9O]) A8 fun _t105_35 B2 =>
 opK Tryd.prog E (xBin .add 3 (.tmp 95) (.const (Value.int .i64 1)) x9 (Value.int .i64 1)) B2 fun e7k v2 =>
 next4 [e7k] v2)
 (R (Value.tuple #[]) r5)
def c4k (x0 x2 x4 : Value) (w : World) (R : Value → World → Prop) (E : Pan) : Prop :=
 ∀ _τ : Fr, (xloop [9] [(Value.int .i64 0)] w fun τ_39 C3 next4 =>
 d3b x0 x2 x4 (τ_39 9) C3 next4 R E)
def d3c (x0 x2 x4 x8 : Value) (w : World) (next5 : List Value → World → Prop) (j3 : List Value → World → Prop) (_R : Value → World → Prop) (E : Pan) : Prop :=
 opK Tryd.prog E (xV (Instr.fieldAt 88 x4 4)) w fun e7l E5 =>
 opK Tryd.prog E (xV (Instr.loadAt 23 e7l)) E5 fun e7m K0 =>
 opK Tryd.prog E (xBuiltin .len #[23] 3 [false] [e7m]) K0 fun e7n I8 =>
 opK Tryd.prog E (xBin .lss 3 (.tmp 60) (.tmp 63) x8 e7n) I8 fun b3v I9 =>
 opK Tryd.prog E (gsem (asB b3v) true (xNil (gval (asB b3v) true x0))) I9 fun e7o O7 =>
 opK Tryd.prog E (gsem (asB b3v) true (xV (Instr.fieldAt 99 e7o 2))) O7 fun e7p P6 =>
 opK Tryd.prog E (gsem (asB b3v) true (xV (Instr.loadAt 3 e7p))) P6 fun e7q L4 =>
 opK Tryd.prog E (gsem (asB b3v) true (xBin .eql 3 (.tmp 69) (.const (Value.int .i64 0)) e7q (Value.int .i64 0))) L4 fun e7r P7 =>
 opK Tryd.prog E (xPick b3v e7r (Value.bool false)) P7 fun e7s W5 =>
 xcond e7s
 (opK Tryd.prog E (xV (Instr.fieldAt 88 x4 4)) W5 fun e7t a0o =>
 opK Tryd.prog E (xV (Instr.loadAt 23 e7t)) a0o fun e7u V6 =>
 opK Tryd.prog E (xV (Instr.indexAt 23 e7u x8)) V6 fun e7v a0p =>
 opK Tryd.prog E (xV (Instr.loadAt 88 e7v)) a0p fun e7w a0F =>
 opK Tryd.prog E (xBin .add 3 (.tmp 80) (.const (Value.int .i64 1)) x2 (Value.int .i64 1)) a0F fun e7x O8 =>
 opK Tryd.prog E (xCall (Value.func (.func 92) #[] #[]) [x0, e7w, e7x]) O8 fun _t82_71 a0G =>
 opK Tryd.prog E (xBin .add 3 (.tmp 72) (.const (Value.int .i64 1)) x8 (Value.int .i64 1)) a0G fun e7y a1h =>
 next5 [e7y] a1h)
 (j3 [] W5)
def c4l (x0 x2 x4 : Value) (w : World) (R : Value → World → Prop) (E : Pan) : Prop :=
 ∀ _τ : Fr, (xcut (fun _ G5 => c4k x0 x2 x4 G5 R E) fun j3 =>
 xloop [8] [(Value.int .i64 0)] w fun τ_75 a1i next5 =>
 d3c x0 x2 x4 (τ_75 8) a1i next5 j3 R E)
def d3d (x0 x2 x4 x7 : Value) (w : World) (next6 : List Value → World → Prop) (j2 : List Value → World → Prop) (_R : Value → World → Prop) (E : Pan) : Prop :=
 opK Tryd.prog E (xV (Instr.fieldAt 88 x4 2)) w fun e7z a1R =>
 opK Tryd.prog E (xV (Instr.loadAt 28 e7z)) a1R fun e7A a2D =>
 opK Tryd.prog E (xBuiltin .len #[28] 3 [false] [e7A]) a2D fun e7B a2R =>
 opK Tryd.prog E (xBin .lss 3 (.tmp 37) (.tmp 40) x7 e7B) a2R fun b3w a2S =>
 opK Tryd.prog E (gsem (asB b3w) true (xNil (gval (asB b3w) true x0))) a2S fun e7C a2T =>
 opK Tryd.prog E (gsem (asB b3w) true (xV (Instr.fieldAt 99 e7C 2))) a2T fun e7D a4N =>
 opK Tryd.prog E (gsem (asB b3w) true (xV (Instr.loadAt 3 e7D))) a4N fun e7E a4O =>
 opK Tryd.prog E (gsem (asB b3w) true (xBin .eql 3 (.tmp 46) (.const (Value.int .i64 0)) e7E (Value.int .i64 0))) a4O fun e7F a4r =>
 opK Tryd.prog E (xPick b3w e7F (Value.bool false)) a4r fun e7G a3R =>
 xcond e7G
 (opK Tryd.prog E (xV (Instr.fieldAt 88 x4 2)) a3R fun c4m a4P =>
 opK Tryd.prog E (xV (Instr.loadAt 28 c4m)) a4P fun e7H a2J =>
 opK Tryd.prog E (xV (Instr.indexAt 28 e7H x7)) a2J fun d9P a2K =>
 opK Tryd.prog E (xV (Instr.loadAt 30 d9P)) a2K fun d9Q a3D =>
 opK Tryd.prog E (xBin .add 3 (.tmp 57) (.const (Value.int .i64 1)) x2 (Value.int .i64 1)) a3D fun d9R a4f =>
 opK Tryd.prog E (xCall (Value.func (.func 58) #[] #[]) [x0, d9Q, d9R]) a4f fun _t59_107 a5d =>
 opK Tryd.prog E (xBin .add 3 (.tmp 49) (.const (Value.int .i64 1)) x7 (Value.int .i64 1)) a5d fun d9S a4y =>
 next6 [d9S] a4y)
 (j2 [] a3R)
def c4n (x0 x2 x4 : Value) (w : World) (R : Value → World → Prop) (E : Pan) : Prop :=
 ∀ _τ : Fr, (xcut (fun _ a1Q => c4l x0 x2 x4 a1Q R E) fun j2 =>
 xloop [7] [(Value.int .i64 0)] w fun τ_111 a4z next6 =>
 d3d x0 x2 x4 (τ_111 7) a4z next6 j2 R E)
def d3e (x0 x2 x4 x6 : Value) (w : World) (next7 : List Value → World → Prop) (j1 : List Value → World → Prop) (_R : Value → World → Prop) (E : Pan) : Prop :=
 opK Tryd.prog E (xV (Instr.fieldAt 88 x4 3)) w fun d9T a5C =>
 opK Tryd.prog E (xV (Instr.loadAt 31 d9T)) a5C fun d9U a5D =>
 opK Tryd.prog E (xBuiltin .len #[31] 3 [false] [d9U]) a5D fun d9V a5E =>
 opK Tryd.prog E (xBin .lss 3 (.tmp 14) (.tmp 17) x6 d9V) a5E fun b0D a7L =>
 opK Tryd.prog E (gsem (asB b0D) true (xNil (gval (asB b0D) true x0))) a7L fun d9W b0j =>
 opK Tryd.prog E (gsem (asB b0D) true (xV (Instr.fieldAt 99 d9W 2))) b0j fun d9X a9r =>
 opK Tryd.prog E (gsem (asB b0D) true (xV (Instr.loadAt 3 d9X))) a9r fun d9Y b0k =>
 opK Tryd.prog E (gsem (asB b0D) true (xBin .eql 3 (.tmp 23) (.const (Value.int .i64 0)) d9Y (Value.int .i64 0))) b0k fun d9Z a9s =>
 opK Tryd.prog E (xPick b0D d9Z (Value.bool false)) a9s fun e0a a7M =>
 xcond e0a
 (opK Tryd.prog E (xV (Instr.fieldAt 88 x4 3)) a7M fun e0b a7N =>
 opK Tryd.prog E (xV (Instr.loadAt 31 e0b)) a7N fun e0c a9t =>
 opK Tryd.prog E (xV (Instr.indexAt 31 e0c x6)) a9t fun e0d b4f =>
 opK Tryd.prog E (xV (Instr.loadAt 33 e0d)) b4f fun e0e b4g =>
 opK Tryd.prog E (xBin .add 3 (.tmp 34) (.const (Value.int .i64 1)) x2 (Value.int .i64 1)) b4g fun e0f b4h =>
 opK Tryd.prog E (xCall (Value.func (.func 61) #[] #[]) [x0, e0e, e0f]) b4h fun _t36_143 b2E =>
 opK Tryd.prog E (xBin .add 3 (.tmp 26) (.const (Value.int .i64 1)) x6 (Value.int .i64 1)) b2E fun e0g a9u =>
 next7 [e0g] a9u)
 (j1 [] a7M)
def F92 (x0 x1 x2 : Value) (w : World) (R : Value → World → Prop) (E : Pan) : Prop :=
 opK Tryd.prog E (xV (Instr.box 88 x1)) w fun b4b w_2 =>
 opK Tryd.prog E (xCall (Value.func (.func 91) #[] #[]) [x0, x2]) w_2 fun c8W w_4 =>
 opK Tryd.prog E (xV (Op.unary .not c8W)) w_4 fun c8X w_6 =>
 xcond c8X
 (R (Value.tuple #[]) w_6)
 (xcut (fun _ a5e => c4n x0 x2 b4b a5e R E) fun j1 =>
 xloop [6] [(Value.int .i64 0)] w_6 fun τ_147 b4i next7 =>
 d3e x0 x2 b4b (τ_147 6) b4i next7 j1 R E)
noncomputable def c92 : Code := Tryd.f92.body.getD .skip
def h92 : Hint := (.seq .none (.seq (.seq .none (.cond .none .none)) (.cut [] (.seq .none (.block (.loop [6] (.seq (.seq .none (.cond .none .none)) (.seq (.block .none) .none))))) (.cut [] (.seq .none (.block (.loop [7] (.seq (.seq .none (.cond .none .none)) (.seq (.block .none) .none))))) (.cut [] (.seq .none (.block (.loop [8] (.seq (.seq .none (.cond .none .none)) (.seq (.block .none) .none))))) (.seq .none (.block (.loop [9] (.seq (.seq .none (.cond .none .none)) (.seq (.block .none) .none))))))))))
theorem e7I (x0 x1 x2 : Value) (w : World) (R : Value → World → Prop) (E : Pan) : F92 x0 x1 x2 w R E = callX Tryd.prog [] c92 h92 [x0, x1, x2] w R E := by kernel_rfl
theorem e7J {x0 x1 x2 : Value} {w : World} {R : Value → World → Prop} {E : Pan} (h : F92 x0 x1 x2 w R E) : Cv Tryd.prog 92 #[x0, x1, x2] w R E := by
 refine g8 (args := [x0, x1, x2]) (c := c92) (h := h92) (rs := []) Tryd.func92 (by kernel_rfl) (by kernel_rfl) (Nat.le_of_ble_eq_true (by kernel_rfl)) (by kernel_rfl) (by kernel_rfl) (by kernel_rfl) ?_
 rw [← e7I]
 exact h
def c4o (x6 : Value) (w : World) (R : Value → World → Prop) (_E : Pan) : Prop :=
 ∀ _τ : Fr, (R x6 w)
def d3f (x6 x25 x26 x27 : Value) (w : World) (next3 : List Value → World → Prop) (j2 : List Value → World → Prop) (_R : Value → World → Prop) (E : Pan) : Prop :=
 opK Tryd.prog E (xBin .lss 3 (.tmp 27) (.tmp 26) x27 x26) w fun f8r w_8 =>
 xcond f8r
 (opK Tryd.prog E (xV (Instr.indexAt 172 x25 x27)) w_8 fun f8s m1 =>
 opK Tryd.prog E (xV (Instr.loadAt 97 f8s)) m1 fun e7K k6 =>
 opK Tryd.prog E (xBuiltin .append #[97, 97] 97 [false, false] [x6, e7K]) k6 fun b6k o3 =>
 opK Tryd.prog E (xBin .add 3 (.tmp 27) (.const (Value.int .i64 1)) x27 (Value.int .i64 1)) o3 fun b6l q7 =>
 next3 [b6k, b6l] q7)
 (j2 [x6] w_8)
def c4p (x0 x3 : Value) (w : World) (R : Value → World → Prop) (E : Pan) : Prop :=
 ∀ _τ : Fr, (opK Tryd.prog E (xCall (Value.func (.func 120) #[] #[]) [(Value.slice none 0 0), x3]) w fun f8t w_2 =>
 xcut (fun l_3 w_4 => c4o (nth l_3 0) w_4 R E) fun j2 =>
 opK Tryd.prog E (xBuiltin .len #[172] 3 [false] [x0]) w_2 fun c8Y w_6 =>
 xloop [6, 27] [f8t, (Value.int .i64 0)] w_6 fun τ_17 r6 next3 =>
 d3f (τ_17 6) x0 c8Y (τ_17 27) r6 next3 j2 R E)
def c4q (_x0 x3 _x9 _x10 x11 : Value) (w : World) (next4 : List Value → World → Prop) (_R : Value → World → Prop) (E : Pan) : Prop :=
 ∀ _τ : Fr, (opK Tryd.prog E (xBin .add 3 (.tmp 11) (.const (Value.int .i64 1)) x11 (Value.int .i64 1)) w fun e7L u6 =>
 next4 [x3, e7L] u6)
def d3g (x0 x3 x9 x10 x11 : Value) (w : World) (next4 : List Value → World → Prop) (j1 : List Value → World → Prop) (R : Value → World → Prop) (E : Pan) : Prop :=
 opK Tryd.prog E (xBin .lss 3 (.tmp 11) (.tmp 10) x11 x10) w fun e7M r5 =>
 xcond e7M
 (xcut (fun a6p v8 => c4q x0 (nth a6p 0) x9 x10 x11 v8 next4 R E) fun j5 =>
 opK Tryd.prog E (xV (Instr.indexAt 172 x9 x11)) r5 fun e7N t7 =>
 opK Tryd.prog E (xV (Instr.loadAt 97 e7N)) t7 fun e7O y8 =>
 opK Tryd.prog E (xBuiltin .len #[97] 3 [false] [e7O]) y8 fun c4r A8 =>
 opK Tryd.prog E (xBin .add 3 (.tmp 15) (.tmp 17) x3 c4r) A8 fun b6m B2 =>
 opK Tryd.prog E (xBin .lss 3 (.tmp 19) (.const (Value.int .i64 0)) b6m (Value.int .i64 0)) B2 fun e7P v2 =>
 xcond e7P
 (opK Tryd.prog E (xV (Instr.makeInterface 9 (Value.string ⟨#[108, 101, 110, 32, 111, 117, 116, 32, 111, 102, 32, 114, 97, 110, 103, 101]⟩))) v2 fun e7Q C3 =>
 opK Tryd.prog E (xV (Instr.panic e7Q)) C3 fun _z_41 G5 =>
 j5 [b6m] G5)
 (j5 [b6m] v2))
 (j1 [x3] r5)
def F94 (x0 : Value) (w : World) (R : Value → World → Prop) (E : Pan) : Prop :=
 xcut (fun d4U o7 => c4p x0 (nth d4U 0) o7 R E) fun j1 =>
 opK Tryd.prog E (xBuiltin .len #[172] 3 [false] [x0]) w fun e7R r7 =>
 xloop [3, 11] [(Value.int .i64 0), (Value.int .i64 0)] r7 fun τ_43 E5 next4 =>
 d3g x0 (τ_43 3) x0 e7R (τ_43 11) E5 next4 j1 R E
noncomputable def c94 : Code := Tryd.f94.body.getD .skip
def h94 : Hint := (.seq .none (.seq .none (.cut [3] (.seq .none (.block (.loop [3, 11] (.seq .none (.seq (.cond .none .none) (.cut [3] (.block (.seq .none (.seq .none (.seq .none (.cond .none .none))))) .none)))))) (.seq .none (.cut [6] (.seq .none (.block (.loop [6, 27] (.seq .none (.seq (.cond .none .none) (.seq (.block (.seq .none .none)) .none)))))) (.seq .none .none))))))
theorem e7S (x0 : Value) (w : World) (R : Value → World → Prop) (E : Pan) : F94 x0 w R E = callX Tryd.prog [.tmp 2] c94 h94 [x0] w R E := by kernel_rfl
theorem e7T {x0 : Value} {w : World} {R : Value → World → Prop} {E : Pan} (h : F94 x0 w R E) : Cv Tryd.prog 94 #[x0] w R E := by
 refine g8 (args := [x0]) (c := c94) (h := h94) (rs := [.tmp 2]) Tryd.func94 (by kernel_rfl) (by kernel_rfl) (Nat.le_of_ble_eq_true (by kernel_rfl)) (by kernel_rfl) (by kernel_rfl) (by kernel_rfl) ?_
 rw [← e7S]
 exact h
def c4s (x5 : Value) (w : World) (R : Value → World → Prop) (_E : Pan) : Prop :=
 ∀ _τ : Fr, (R x5 w)
def d3h (x1 x5 x8 x9 x10 : Value) (w : World) (next2 : List Value → World → Prop) (j1 : List Value → World → Prop) (_R : Value → World → Prop) (E : Pan) : Prop :=
 opK Tryd.prog E (xBin .lss 3 (.tmp 10) (.tmp 9) x10 x9) w fun a7I w_6 =>
 xcond a7I
 (opK Tryd.prog E (xV (Instr.indexAt 22 x8 x10)) w_6 fun a5b w_8 =>
 opK Tryd.prog E (xV (Instr.loadAt 67 a5b)) w_8 fun a6d m1 =>
 opK Tryd.prog E (xV (Instr.alloc 67 true (.tuple #[]))) m1 fun a4d k6 =>
 opK Tryd.prog E (xU (Instr.storeAt 67 a4d a6d)) k6 fun _z_13 o3 =>
 opK Tryd.prog E (xV (Instr.loadAt 67 a4d)) o3 fun b1i q7 =>
 opK Tryd.prog E (xCall x1 [b1i]) q7 fun b1j r6 =>
 opK Tryd.prog E (xV (Instr.buildSlice 97 1 #[(0, b1j)])) r6 fun b1k o7 =>
 opK Tryd.prog E (xBuiltin .append #[97, 97] 97 [false, false] [x5, b1k]) o7 fun b1l r7 =>
 opK Tryd.prog E (xBin .add 3 (.tmp 10) (.const (Value.int .i64 1)) x10 (Value.int .i64 1)) r7 fun b1m r5 =>
 next2 [b1l, b1m] r5)
 (j1 [x5] w_6)
def F95 (x0 x1 : Value) (w : World) (R : Value → World → Prop) (E : Pan) : Prop :=
 xcut (fun l_1 w_2 => c4s (nth l_1 0) w_2 R E) fun j1 =>
 opK Tryd.prog E (xBuiltin .len #[22] 3 [false] [x0]) w fun a5a w_4 =>
 xloop [5, 10] [(Value.slice none 0 0), (Value.int .i64 0)] w_4 fun τ_25 u6 next2 =>
 d3h x1 (τ_25 5) x0 a5a (τ_25 10) u6 next2 j1 R E
noncomputable def c95 : Code := Tryd.f95.body.getD .skip
def h95 : Hint := (.seq .none (.seq .none (.cut [5] (.seq .none (.block (.loop [5, 10] (.seq .none (.seq (.cond .none .none) (.seq (.block (.seq .none .none)) .none)))))) (.seq .none .none))))
theorem e7U (x0 x1 : Value) (w : World) (R : Value → World → Prop) (E : Pan) : F95 x0 x1 w R E = callX Tryd.prog [.tmp 4] c95 h95 [x0, x1] w R E := by kernel_rfl
theorem e7V {x0 x1 : Value} {w : World} {R : Value → World → Prop} {E : Pan} (h : F95 x0 x1 w R E) : Cv Tryd.prog 95 #[x0, x1] w R E := by
 refine g8 (args := [x0, x1]) (c := c95) (h := h95) (rs := [.tmp 4]) Tryd.func95 (by kernel_rfl) (by kernel_rfl) (Nat.le_of_ble_eq_true (by kernel_rfl)) (by kernel_rfl) (by kernel_rfl) (by kernel_rfl) ?_
 rw [← e7U]
 exact h
def F96 (x0 : Value) (w : World) (R : Value → World → Prop) (E : Pan) : Prop :=
 opK Tryd.prog E (xV (Instr.box 67 x0)) w fun t6 w_2 =>
 opK Tryd.prog E (xV (Instr.loadAt 67 t6)) w_2 fun F7 w_4 =>
 opK Tryd.prog E (xV (Instr.build 175 #[(0, F7)])) w_4 fun a2P w_6 =>
 opK Tryd.prog E (xV (Instr.makeInterface 175 a2P)) w_6 fun a4Y w_8 =>
 R a4Y w_8
noncomputable def c96 : Code := Tryd.f96.body.getD .skip
def h96 : Hint := (.seq .none (.seq .none .none))
theorem e7W (x0 : Value) (w : World) (R : Value → World → Prop) (E : Pan) : F96 x0 w R E = callX Tryd.prog [.tmp 2] c96 h96 [x0] w R E := by kernel_rfl
theorem e7X {x0 : Value} {w : World} {R : Value → World → Prop} {E : Pan} (h : F96 x0 w R E) : Cv Tryd.prog 96 #[x0] w R E := by
 refine g8 (args := [x0]) (c := c96) (h := h96) (rs := [.tmp 2]) Tryd.func96 (by kernel_rfl) (by kernel_rfl) (Nat.le_of_ble_eq_true (by kernel_rfl)) (by kernel_rfl) (by kernel_rfl) (by kernel_rfl) ?_
 rw [← e7W]
 exact h
def c4t (x5 : Value) (w : World) (R : Value → World → Prop) (_E : Pan) : Prop :=
 ∀ _τ : Fr, (R x5 w)
def d3i (x1 x5 x8 x9 x10 : Value) (w : World) (next2 : List Value → World → Prop) (j1 : List Value → World → Prop) (_R : Value → World → Prop) (E : Pan) : Prop :=
 opK Tryd.prog E (xBin .lss 3 (.tmp 10) (.tmp 9) x10 x9) w fun a7I w_6 =>
 xcond a7I
 (opK Tryd.prog E (xV (Instr.indexAt 23 x8 x10)) w_6 fun a5b w_8 =>
 opK Tryd.prog E (xV (Instr.loadAt 88 a5b)) w_8 fun a6d m1 =>
 opK Tryd.prog E (xV (Instr.alloc 88 true (.tuple #[]))) m1 fun a4d k6 =>
 opK Tryd.prog E (xU (Instr.storeAt 88 a4d a6d)) k6 fun _z_13 o3 =>
 opK Tryd.prog E (xV (Instr.loadAt 88 a4d)) o3 fun b1i q7 =>
 opK Tryd.prog E (xCall x1 [b1i]) q7 fun b1j r6 =>
 opK Tryd.prog E (xV (Instr.buildSlice 97 1 #[(0, b1j)])) r6 fun b1k o7 =>
 opK Tryd.prog E (xBuiltin .append #[97, 97] 97 [false, false] [x5, b1k]) o7 fun b1l r7 =>
 opK Tryd.prog E (xBin .add 3 (.tmp 10) (.const (Value.int .i64 1)) x10 (Value.int .i64 1)) r7 fun b1m r5 =>
 next2 [b1l, b1m] r5)
 (j1 [x5] w_6)
def F97 (x0 x1 : Value) (w : World) (R : Value → World → Prop) (E : Pan) : Prop :=
 xcut (fun l_1 w_2 => c4t (nth l_1 0) w_2 R E) fun j1 =>
 opK Tryd.prog E (xBuiltin .len #[23] 3 [false] [x0]) w fun a5a w_4 =>
 xloop [5, 10] [(Value.slice none 0 0), (Value.int .i64 0)] w_4 fun τ_25 u6 next2 =>
 d3i x1 (τ_25 5) x0 a5a (τ_25 10) u6 next2 j1 R E
noncomputable def c97 : Code := Tryd.f97.body.getD .skip
def h97 : Hint := (.seq .none (.seq .none (.cut [5] (.seq .none (.block (.loop [5, 10] (.seq .none (.seq (.cond .none .none) (.seq (.block (.seq .none .none)) .none)))))) (.seq .none .none))))
theorem e7Y (x0 x1 : Value) (w : World) (R : Value → World → Prop) (E : Pan) : F97 x0 x1 w R E = callX Tryd.prog [.tmp 4] c97 h97 [x0, x1] w R E := by kernel_rfl
theorem e7Z {x0 x1 : Value} {w : World} {R : Value → World → Prop} {E : Pan} (h : F97 x0 x1 w R E) : Cv Tryd.prog 97 #[x0, x1] w R E := by
 refine g8 (args := [x0, x1]) (c := c97) (h := h97) (rs := [.tmp 4]) Tryd.func97 (by kernel_rfl) (by kernel_rfl) (Nat.le_of_ble_eq_true (by kernel_rfl)) (by kernel_rfl) (by kernel_rfl) (by kernel_rfl) ?_
 rw [← e7Y]
 exact h
def F98 (x0 : Value) (w : World) (R : Value → World → Prop) (E : Pan) : Prop :=
 opK Tryd.prog E (xV (Instr.box 88 x0)) w fun t6 w_2 =>
 opK Tryd.prog E (xV (Instr.loadAt 88 t6)) w_2 fun F7 w_4 =>
 opK Tryd.prog E (xV (Instr.build 177 #[(0, F7)])) w_4 fun a2P w_6 =>
 opK Tryd.prog E (xV (Instr.makeInterface 177 a2P)) w_6 fun a4Y w_8 =>
 R a4Y w_8
noncomputable def c98 : Code := Tryd.f98.body.getD .skip
def h98 : Hint := (.seq .none (.seq .none .none))
theorem e8a (x0 : Value) (w : World) (R : Value → World → Prop) (E : Pan) : F98 x0 w R E = callX Tryd.prog [.tmp 2] c98 h98 [x0] w R E := by kernel_rfl
theorem e8b {x0 : Value} {w : World} {R : Value → World → Prop} {E : Pan} (h : F98 x0 w R E) : Cv Tryd.prog 98 #[x0] w R E := by
 refine g8 (args := [x0]) (c := c98) (h := h98) (rs := [.tmp 2]) Tryd.func98 (by kernel_rfl) (by kernel_rfl) (Nat.le_of_ble_eq_true (by kernel_rfl)) (by kernel_rfl) (by kernel_rfl) (by kernel_rfl) ?_
 rw [← e8a]
 exact h
def c8Z (x0 : Value) (w : World) (R : Value → World → Prop) (E : Pan) : Prop :=
 opK Tryd.prog E (xV (Instr.typeAssert x0 141 175 true)) w fun e8c w_2 =>
 opK Tryd.prog E (xV (Instr.extract e8c 1)) w_2 fun a5a w_4 =>
 opK Tryd.prog E (xV (Instr.extract e8c 0)) w_4 fun a2Y w_6 =>
 xcond a5a
 (opK Tryd.prog E (xV (Instr.alloc 175 true (.tuple #[]))) w_6 fun b5S w_8 =>
 opK Tryd.prog E (xU (Instr.storeAt 175 b5S a2Y)) w_8 fun _z_9 m1 =>
 opK Tryd.prog E (xV (Instr.fieldAt 175 b5S 0)) m1 fun b0N k6 =>
 opK Tryd.prog E (xV (Instr.fieldAt 67 b0N 0)) k6 fun c4u o3 =>
 opK Tryd.prog E (xV (Instr.loadAt 9 c4u)) o3 fun b9G q7 =>
 R (Value.tuple #[b9G, (Value.bool true)]) q7)
 (opK Tryd.prog E (xV (Instr.typeAssert x0 141 177 true)) w_6 fun a0O r6 =>
 opK Tryd.prog E (xV (Instr.extract a0O 1)) r6 fun c4v o7 =>
 opK Tryd.prog E (xV (Instr.extract a0O 0)) o7 fun c4w r7 =>
 xcond c4v
 (opK Tryd.prog E (xV (Instr.alloc 177 true (.tuple #[]))) r7 fun c2V r5 =>
 opK Tryd.prog E (xU (Instr.storeAt 177 c2V c4w)) r5 fun _z_25 u6 =>
 dX u6 fun a8Q =>
 qP Tryd.prog (xV (Instr.fieldAt 177 c2V 0)) fun e8d =>
 qP Tryd.prog (xV (Instr.fieldAt 88 e8d 1)) fun b9A =>
 qP Tryd.prog (xV (Instr.fieldAt 177 c2V 0)) fun e8e =>
 qP Tryd.prog (xV (Instr.fieldAt 88 e8e 0)) fun b9x =>
 qL Tryd.prog a8Q (blk b9A) (xV (Instr.loadAt 9 b9A)) fun e8f =>
 qL Tryd.prog a8Q (blk b9x) (xV (Instr.loadAt 3 b9x)) fun c3K =>
 qP Tryd.prog (xBin .eql 3 (.tmp 22) (.const (Value.int .i64 1)) c3K (Value.int .i64 1)) fun b6n =>
 qP Tryd.prog (gsem (asB b6n) false (xV (Instr.fieldAt 177 c2V 0))) fun e8g =>
 qP Tryd.prog (gsem (asB b6n) false (xV (Instr.fieldAt 88 e8g 0))) fun d3j =>
 qL Tryd.prog a8Q (blk d3j) (gsem (asB b6n) false (xV (Instr.loadAt 3 d3j))) fun c4g =>
 qP Tryd.prog (gsem (asB b6n) false (xBin .eql 3 (.tmp 27) (.const (Value.int .i64 2)) c4g (Value.int .i64 2))) fun e8h =>
 qP Tryd.prog (xPick b6n (Value.bool true) e8h) fun e8i =>
 R (Value.tuple #[e8f, e8i]) a8Q)
 (opK Tryd.prog E (xV (Instr.typeAssert x0 141 96 true)) r7 fun d3k d4Q =>
 opK Tryd.prog E (xV (Instr.extract d3k 1)) d4Q fun e8j c8S =>
 opK Tryd.prog E (xV (Instr.extract d3k 0)) c8S fun e8k c8T =>
 xcond e8j
 (opK Tryd.prog E (xV (Instr.alloc 96 true (.tuple #[]))) c8T fun c2W a6o =>
 opK Tryd.prog E (xU (Instr.storeAt 96 c2W e8k)) a6o fun _z_48 d4S =>
 dX d4S fun I9 =>
 qP Tryd.prog (xV (Instr.fieldAt 96 c2W 0)) fun e8l =>
 qP Tryd.prog (xV (Instr.fieldAt 30 e8l 2)) fun d3l =>
 qP Tryd.prog (xV (Instr.fieldAt 96 c2W 0)) fun c4x =>
 qP Tryd.prog (xV (Instr.fieldAt 30 c4x 0)) fun d3m =>
 qL Tryd.prog I9 (blk d3l) (xV (Instr.loadAt 9 d3l)) fun e8m =>
 qL Tryd.prog I9 (blk d3m) (xV (Instr.loadAt 3 d3m)) fun e8n =>
 qP Tryd.prog (xBin .eql 3 (.tmp 38) (.const (Value.int .i64 2)) e8n (Value.int .i64 2)) fun b6o =>
 qP Tryd.prog (gsem (asB b6o) false (xV (Instr.fieldAt 96 c2W 0))) fun e8o =>
 qP Tryd.prog (gsem (asB b6o) false (xV (Instr.fieldAt 30 e8o 0))) fun d3n =>
 qL Tryd.prog I9 (blk d3n) (gsem (asB b6o) false (xV (Instr.loadAt 3 d3n))) fun e8p =>
 qP Tryd.prog (gsem (asB b6o) false (xBin .eql 3 (.tmp 43) (.const (Value.int .i64 4)) e8p (Value.int .i64 4))) fun e8q =>
 qP Tryd.prog (xPick b6o (Value.bool true) e8q) fun e8r =>
 R (Value.tuple #[e8m, e8r]) I9)
 (R (Value.tuple #[(Value.string ⟨#[]⟩), (Value.bool false)]) c8T)))
noncomputable def e8s : Code := Tryd.f114.body.getD .skip
def e8t : Hint := (.seq .none (.seq (.seq .none (.block (.seq .none (.cond (.seq .none (.seq .none .none)) (.seq .none (.cond (.seq .none (.seq (.reg [(0, 131072, 32), (1, 262144, 131072), (2, 524288, 262144), (0, 1048576, 32), (8, 2097152, 1048576), (16, 4194304, 2097152), (32, 8388608, 4194304), (64, 16777216, 8388608), (128, 33554432, 16777248), (384, 67108864, 50331648), (640, 134217728, 83886080), (1152, 268435456, 150994944), (2176, 536870912, 285212672), (135, 4, 524288), (16383, 8, 536870912)] [1060, 1060, 1056, 1060, 1060, 1028, 1060, 1060, 1060, 1060, 36, 1060, 1060, 1060, 1060] (.early 0 (.early 1 (.early 3 (.early 4 (.load 2 (.load 5 (.early 6 (.early 7 (.early 8 (.early 9 (.early 13 (.load 10 (.early 11 (.early 12 (.early 14 .done)))))))))))))))) .none)) (.seq .none (.cond (.seq .none (.seq (.reg [(0, 8589934592, 64), (1, 17179869184, 8589934592), (2, 34359738368, 17179869184), (0, 68719476736, 64), (8, 137438953472, 68719476736), (16, 274877906944, 137438953472), (32, 549755813888, 274877906944), (64, 1099511627776, 549755813888), (128, 2199023255552, 1099511627840), (384, 4398046511104, 3298534883328), (640, 8796093022208, 5497558138880), (1152, 17592186044416, 9895604649984), (2176, 35184372088832, 18691697672192), (135, 4, 34359738368), (16383, 8, 35184372088832)] [1060, 1060, 1056, 1060, 1060, 1028, 1060, 1060, 1060, 1060, 36, 1060, 1060, 1060, 1060] (.early 0 (.early 1 (.early 3 (.early 4 (.load 2 (.load 5 (.early 6 (.early 7 (.early 8 (.early 9 (.early 13 (.load 10 (.early 11 (.early 12 (.early 14 .done)))))))))))))))) .none)) .none)))))))) (.seq .none .none)))
theorem e0h (x0 : Value) (w : World) (R : Value → World → Prop) (E : Pan) : c8Z x0 w R E = callX Tryd.prog [.tmp 2, .tmp 3] e8s e8t [x0] w R E := by kernel_rfl
theorem e0i {x0 : Value} {w : World} {R : Value → World → Prop} {E : Pan} (h : c8Z x0 w R E) : Cv Tryd.prog 114 #[x0] w R E := by
 refine g8 (args := [x0]) (c := e8s) (h := e8t) (rs := [.tmp 2, .tmp 3]) Tryd.func114 (by kernel_rfl) (by kernel_rfl) (Nat.le_of_ble_eq_true (by kernel_rfl)) (by kernel_rfl) (by kernel_rfl) (by kernel_rfl) ?_
 rw [← e0h]
 exact h
def c1c (w : World) (R : Value → World → Prop) (_E : Pan) : Prop :=
 ∀ _τ : Fr, (R (Value.bool true) w)
def c7R (x21 : Value) (w : World) (next2 : List Value → World → Prop) (j1 : List Value → World → Prop) (R : Value → World → Prop) (E : Pan) : Prop :=
 opK Tryd.prog E (xV (Instr.next x21 true 0)) w fun b6p r7 =>
 opK Tryd.prog E (xV (Instr.extract b6p 0)) r7 fun b0R r5 =>
 xcond b0R
 (opK Tryd.prog E (xV (Instr.extract b6p 1)) r5 fun b5P u6 =>
 opK Tryd.prog E (xV (Instr.extract b6p 2)) u6 fun d3o v8 =>
 opK Tryd.prog E (xCall (Value.func (.func 125) #[] #[]) [d3o]) v8 fun b0Z t7 =>
 opK Tryd.prog E (xV (Op.unary .not b0Z)) t7 fun a4e y8 =>
 opK Tryd.prog E (gsem (asB a4e) false (xBin .eql 3 (.tmp 30) (.const (Value.int .i64 0)) (gval (asB a4e) false b5P) (Value.int .i64 0))) y8 fun b3m A8 =>
 opK Tryd.prog E (gsem (asB (gval (asB a4e) false b3m)) true (xCall (Value.func (.func 126) #[] #[]) [(gval (asB (gval (asB a4e) false b3m)) true d3o)])) A8 fun e8u B2 =>
 opK Tryd.prog E (gsem (asB (gval (asB a4e) false b3m)) true (xBin .neq 3 (.tmp 34) (.const (Value.int .i64 3)) e8u (Value.int .i64 3))) B2 fun e8v v2 =>
 opK Tryd.prog E (gsem (asB a4e) false (xPick (gval (asB a4e) false b3m) e8v (Value.bool false))) v2 fun e8w C3 =>
 opK Tryd.prog E (xPick a4e (Value.bool true) e8w) C3 fun e8x G5 =>
 xcond e8x
 (R (Value.bool false) G5)
 (next2 [] G5))
 (j1 [] r5)
def c9a (x0 : Value) (w : World) (R : Value → World → Prop) (E : Pan) : Prop :=
 opK Tryd.prog E (xBin .eql 9 (.tmp 5) (.const (Value.string ⟨#[]⟩)) x0 (Value.string ⟨#[]⟩)) w fun a7B w_2 =>
 opK Tryd.prog E (gsem (asB a7B) false (xCall (Value.func (.func 122) #[] #[]) [(gval (asB a7B) false x0)])) w_2 fun a5a w_4 =>
 opK Tryd.prog E (gsem (asB a7B) false (xV (Op.unary .not a5a))) w_4 fun a2Y w_6 =>
 opK Tryd.prog E (xPick a7B (Value.bool true) a2Y) w_6 fun b9H w_8 =>
 opK Tryd.prog E (gsem (asB b9H) false (xCall (Value.func (.func 123) #[] #[]) [(gval (asB b9H) false x0)])) w_8 fun a7K m1 =>
 opK Tryd.prog E (xPick b9H (Value.bool true) a7K) m1 fun b6h k6 =>
 opK Tryd.prog E (gsem (asB b6h) false (xCall (Value.func (.func 124) #[] #[]) [(gval (asB b6h) false x0)])) k6 fun a5t o3 =>
 opK Tryd.prog E (xPick b6h (Value.bool true) a5t) o3 fun a4M q7 =>
 xcond a4M
 (R (Value.bool false) q7)
 (xcut (fun _ r6 => c1c r6 R E) fun j1 =>
 opK Tryd.prog E (xV (Instr.range 9 x0)) q7 fun c4y o7 =>
 xloop [] [] o7 fun _ E5 next2 =>
 c7R c4y E5 next2 j1 R E)
noncomputable def e8y : Code := Tryd.f115.body.getD .skip
def e8z : Hint := (.seq .none (.seq (.seq .none (.cond (.seq .none .none) .none)) (.cut [] (.seq .none (.block (.loop [] (.seq .none (.seq (.cond .none .none) (.block (.seq .none (.seq .none (.cond (.seq .none .none) .none))))))))) (.seq .none .none))))
theorem e0j (x0 : Value) (w : World) (R : Value → World → Prop) (E : Pan) : c9a x0 w R E = callX Tryd.prog [.tmp 2] e8y e8z [x0] w R E := by kernel_rfl
theorem e0k {x0 : Value} {w : World} {R : Value → World → Prop} {E : Pan} (h : c9a x0 w R E) : Cv Tryd.prog 115 #[x0] w R E := by
 refine g8 (args := [x0]) (c := e8y) (h := e8z) (rs := [.tmp 2]) Tryd.func115 (by kernel_rfl) (by kernel_rfl) (Nat.le_of_ble_eq_true (by kernel_rfl)) (by kernel_rfl) (by kernel_rfl) (by kernel_rfl) ?_
 rw [← e0j]
 exact h
def c9b (x0 x1 : Value) (w : World) (R : Value → World → Prop) (E : Pan) : Prop :=
 opK Tryd.prog E (xCall (Value.func (.func 127) #[] #[]) [x0, x1]) w fun b4a w_2 =>
 opK Tryd.prog E (xBin .geq 3 (.tmp 7) (.const (Value.int .i64 0)) b4a (Value.int .i64 0)) w_2 fun c1d w_4 =>
 R c1d w_4
noncomputable def e8A : Code := Tryd.f116.body.getD .skip
def e8B : Hint := (.seq .none (.seq .none .none))
theorem e0l (x0 x1 : Value) (w : World) (R : Value → World → Prop) (E : Pan) : c9b x0 x1 w R E = callX Tryd.prog [.tmp 4] e8A e8B [x0, x1] w R E := by kernel_rfl
theorem e0m {x0 x1 : Value} {w : World} {R : Value → World → Prop} {E : Pan} (h : c9b x0 x1 w R E) : Cv Tryd.prog 116 #[x0, x1] w R E := by
 refine g8 (args := [x0, x1]) (c := e8A) (h := e8B) (rs := [.tmp 4]) Tryd.func116 (by kernel_rfl) (by kernel_rfl) (Nat.le_of_ble_eq_true (by kernel_rfl)) (by kernel_rfl) (by kernel_rfl) (by kernel_rfl) ?_
 rw [← e0l]
 exact h
def c1e (x0 : Value) (w : World) (R : Value → World → Prop) (_E : Pan) : Prop :=
 ∀ _τ : Fr, (R x0 w)
def c7S (x0 x1 : Value) (w : World) (R : Value → World → Prop) (E : Pan) : Prop :=
 ∀ _τ : Fr, (xcut (fun l_1 w_2 => c1e (nth l_1 0) w_2 R E) fun j2 =>
 opK Tryd.prog E (xBuiltin .cap #[97] 3 [false] [x0]) w fun b4c w_4 =>
 opK Tryd.prog E (xBuiltin .len #[97] 3 [false] [x0]) w_4 fun b4d w_6 =>
 opK Tryd.prog E (xBin .sub 3 (.tmp 10) (.tmp 12) b4c b4d) w_6 fun b4e w_8 =>
 opK Tryd.prog E (xBin .sub 3 (.tmp 8) (.tmp 13) x1 b4e) w_8 fun a7K m1 =>
 opK Tryd.prog E (xBin .gtr 3 (.tmp 15) (.const (Value.int .i64 0)) a7K (Value.int .i64 0)) m1 fun a4Q k6 =>
 xcond a4Q
 (opK Tryd.prog E (xBuiltin .cap #[97] 3 [false] [x0]) k6 fun e8C o3 =>
 opK Tryd.prog E (xV (Instr.sliceAt 97 x0 none (some e8C) none)) o3 fun b6q q7 =>
 opK Tryd.prog E (xBuiltin .append #[97, 3] 97 [false, false] [b6q, a7K]) q7 fun c4z r6 =>
 opK Tryd.prog E (xBuiltin .len #[97] 3 [false] [x0]) r6 fun b6r o7 =>
 opK Tryd.prog E (xV (Instr.sliceAt 97 c4z none (some b6r) none)) o7 fun e8D r7 =>
 j2 [e8D] r7)
 (j2 [x0] k6))
def d4V (x0 x1 : Value) (w : World) (R : Value → World → Prop) (E : Pan) : Prop :=
 xcut (fun _ r5 => c7S x0 x1 r5 R E) fun j1 =>
 opK Tryd.prog E (xBin .lss 3 (.tmp 5) (.const (Value.int .i64 0)) x1 (Value.int .i64 0)) w fun f8u u6 =>
 xcond f8u
 (opK Tryd.prog E (xV (Instr.makeInterface 9 (Value.string ⟨#[99, 97, 110, 110, 111, 116, 32, 98, 101, 32, 110, 101, 103, 97, 116, 105, 118, 101]⟩))) u6 fun f8v v8 =>
 opK Tryd.prog E (xV (Instr.panic f8v)) v8 fun _z_29 t7 =>
 j1 [] t7)
 (j1 [] u6)
noncomputable def e8E : Code := Tryd.f120.body.getD .skip
def e8F : Hint := (.seq .none (.cut [] (.seq .none (.cond .none .none)) (.cut [0] (.seq .none (.seq .none (.cond .none .none))) (.seq .none .none))))
theorem e0n (x0 x1 : Value) (w : World) (R : Value → World → Prop) (E : Pan) : d4V x0 x1 w R E = callX Tryd.prog [.tmp 4] e8E e8F [x0, x1] w R E := by kernel_rfl
theorem e0o {x0 x1 : Value} {w : World} {R : Value → World → Prop} {E : Pan} (h : d4V x0 x1 w R E) : Cv Tryd.prog 120 #[x0, x1] w R E := by
 refine g8 (args := [x0, x1]) (c := e8E) (h := e8F) (rs := [.tmp 4]) Tryd.func120 (by kernel_rfl) (by kernel_rfl) (Nat.le_of_ble_eq_true (by kernel_rfl)) (by kernel_rfl) (by kernel_rfl) (by kernel_rfl) ?_
 rw [← e0n]
 exact h
def c9c (x0 : Value) (w : World) (R : Value → World → Prop) (E : Pan) : Prop :=
 opK Tryd.prog E (xCall (Value.func (.func 130) #[] #[]) [x0]) w fun b4b w_2 =>
 opK Tryd.prog E (xBin .gtr 3 (.tmp 4) (.const (Value.int .i64 32)) b4b (Value.int .i64 32)) w_2 fun a6O w_4 =>
 R a6O w_4
noncomputable def e8G : Code := Tryd.f123.body.getD .skip
def e8H : Hint := (.seq .none (.seq .none .none))
theorem e0p (x0 : Value) (w : World) (R : Value → World → Prop) (E : Pan) : c9c x0 w R E = callX Tryd.prog [.tmp 2] e8G e8H [x0] w R E := by kernel_rfl
theorem e0q {x0 : Value} {w : World} {R : Value → World → Prop} {E : Pan} (h : c9c x0 w R E) : Cv Tryd.prog 123 #[x0] w R E := by
 refine g8 (args := [x0]) (c := e8G) (h := e8H) (rs := [.tmp 2]) Tryd.func123 (by kernel_rfl) (by kernel_rfl) (Nat.le_of_ble_eq_true (by kernel_rfl)) (by kernel_rfl) (by kernel_rfl) (by kernel_rfl) ?_
 rw [← e0p]
 exact h
def c1f (x4 : Value) (w : World) (R : Value → World → Prop) (_E : Pan) : Prop :=
 ∀ _τ : Fr, (xcond x4
 (R (Value.bool true) w)
 (R (Value.bool false) w))
def c9d (x0 : Value) (w : World) (R : Value → World → Prop) (E : Pan) : Prop :=
 xcut (fun l_1 w_2 => c1f (nth l_1 0) w_2 R E) fun j1 =>
 opK Tryd.prog E (xBin .eql 9 (.tmp 3) (.const (Value.string ⟨#[118, 97, 114]⟩)) x0 (Value.string ⟨#[118, 97, 114]⟩)) w fun a6O w_4 =>
 xcond a6O
 (j1 [a6O] w_4)
 (opK Tryd.prog E (xBin .eql 9 (.tmp 3) (.const (Value.string ⟨#[97, 114, 114, 97, 121]⟩)) x0 (Value.string ⟨#[97, 114, 114, 97, 121]⟩)) w_4 fun a2Q w_6 =>
 xcond a2Q
 (j1 [a2Q] w_6)
 (opK Tryd.prog E (xBin .eql 9 (.tmp 3) (.const (Value.string ⟨#[105, 102]⟩)) x0 (Value.string ⟨#[105, 102]⟩)) w_6 fun b0X w_8 =>
 xcond b0X
 (j1 [b0X] w_8)
 (opK Tryd.prog E (xBin .eql 9 (.tmp 3) (.const (Value.string ⟨#[101, 108, 115, 101]⟩)) x0 (Value.string ⟨#[101, 108, 115, 101]⟩)) w_8 fun b0M m1 =>
 xcond b0M
 (j1 [b0M] m1)
 (opK Tryd.prog E (xBin .eql 9 (.tmp 3) (.const (Value.string ⟨#[119, 104, 105, 108, 101]⟩)) x0 (Value.string ⟨#[119, 104, 105, 108, 101]⟩)) m1 fun b0g k6 =>
 xcond b0g
 (j1 [b0g] k6)
 (opK Tryd.prog E (xBin .eql 9 (.tmp 3) (.const (Value.string ⟨#[97, 115, 115, 101, 114, 116]⟩)) x0 (Value.string ⟨#[97, 115, 115, 101, 114, 116]⟩)) k6 fun a4c o3 =>
 xcond a4c
 (j1 [a4c] o3)
 (opK Tryd.prog E (xBin .eql 9 (.tmp 3) (.const (Value.string ⟨#[97, 115, 115, 117, 109, 101]⟩)) x0 (Value.string ⟨#[97, 115, 115, 117, 109, 101]⟩)) o3 fun a4I q7 =>
 xcond a4I
 (j1 [a4I] q7)
 (opK Tryd.prog E (xBin .eql 9 (.tmp 3) (.const (Value.string ⟨#[115, 107, 105, 112]⟩)) x0 (Value.string ⟨#[115, 107, 105, 112]⟩)) q7 fun a4J r6 =>
 xcond a4J
 (j1 [a4J] r6)
 (opK Tryd.prog E (xBin .eql 9 (.tmp 3) (.const (Value.string ⟨#[105, 110, 112, 117, 116]⟩)) x0 (Value.string ⟨#[105, 110, 112, 117, 116]⟩)) r6 fun a4K o7 =>
 xcond a4K
 (j1 [a4K] o7)
 (opK Tryd.prog E (xBin .eql 9 (.tmp 3) (.const (Value.string ⟨#[116, 114, 117, 101]⟩)) x0 (Value.string ⟨#[116, 114, 117, 101]⟩)) o7 fun a4L r7 =>
 xcond a4L
 (j1 [a4L] r7)
 (opK Tryd.prog E (xBin .eql 9 (.tmp 3) (.const (Value.string ⟨#[102, 97, 108, 115, 101]⟩)) x0 (Value.string ⟨#[102, 97, 108, 115, 101]⟩)) r7 fun a7H r5 =>
 j1 [a7H] r5))))))))))
noncomputable def e8I : Code := Tryd.f124.body.getD .skip
def e8J : Hint := (.seq .none (.seq (.seq .none (.block (.cut [4] (.seq .none (.cond .none (.seq .none (.cond .none (.seq .none (.cond .none (.seq .none (.cond .none (.seq .none (.cond .none (.seq .none (.cond .none (.seq .none (.cond .none (.seq .none (.cond .none (.seq .none (.cond .none (.seq .none (.cond .none .none)))))))))))))))))))) (.cond (.seq .none .none) .none)))) (.seq .none .none)))
theorem e0r (x0 : Value) (w : World) (R : Value → World → Prop) (E : Pan) : c9d x0 w R E = callX Tryd.prog [.tmp 2] e8I e8J [x0] w R E := by kernel_rfl
theorem e0s {x0 : Value} {w : World} {R : Value → World → Prop} {E : Pan} (h : c9d x0 w R E) : Cv Tryd.prog 124 #[x0] w R E := by
 refine g8 (args := [x0]) (c := e8I) (h := e8J) (rs := [.tmp 2]) Tryd.func124 (by kernel_rfl) (by kernel_rfl) (Nat.le_of_ble_eq_true (by kernel_rfl)) (by kernel_rfl) (by kernel_rfl) (by kernel_rfl) ?_
 rw [← e0r]
 exact h
def c9e (x0 : Value) (w : World) (R : Value → World → Prop) (E : Pan) : Prop :=
 opK Tryd.prog E (xCall (Value.func (.func 126) #[] #[]) [x0]) w fun e8K w_2 =>
 opK Tryd.prog E (xBin .eql 3 (.tmp 6) (.const (Value.int .i64 3)) e8K (Value.int .i64 3)) w_2 fun a7C w_4 =>
 opK Tryd.prog E (gsem (asB a7C) false (xBin .eql 3 (.tmp 9) (.const (Value.int .i64 4)) (gval (asB a7C) false e8K) (Value.int .i64 4))) w_4 fun a2Y w_6 =>
 opK Tryd.prog E (xPick a7C (Value.bool true) a2Y) w_6 fun b9H w_8 =>
 R b9H w_8
noncomputable def e8L : Code := Tryd.f125.body.getD .skip
def e8M : Hint := (.seq .none (.seq .none (.seq .none .none)))
theorem e0t (x0 : Value) (w : World) (R : Value → World → Prop) (E : Pan) : c9e x0 w R E = callX Tryd.prog [.tmp 2] e8L e8M [x0] w R E := by kernel_rfl
theorem e0u {x0 : Value} {w : World} {R : Value → World → Prop} {E : Pan} (h : c9e x0 w R E) : Cv Tryd.prog 125 #[x0] w R E := by
 refine g8 (args := [x0]) (c := e8L) (h := e8M) (rs := [.tmp 2]) Tryd.func125 (by kernel_rfl) (by kernel_rfl) (Nat.le_of_ble_eq_true (by kernel_rfl)) (by kernel_rfl) (by kernel_rfl) (by kernel_rfl) ?_
 rw [← e0t]
 exact h
def c1g (x39 : Value) (w : World) (R : Value → World → Prop) (_E : Pan) : Prop :=
 ∀ _τ : Fr, (xcond x39
 (R (Value.int .i64 3) w)
 (R (Value.int .i64 6) w))
def c1h (x1 x31 : Value) (w : World) (R : Value → World → Prop) (E : Pan) : Prop :=
 ∀ _τ : Fr, (xcond x31
 (R (Value.int .i64 6) w)
 (opK Tryd.prog E (xV (Instr.makeFunc (.func 131) #[] #[x1])) w fun b7g w_8 =>
 opK Tryd.prog E (xCall b7g [(Value.int .i32 48), (Value.int .i32 57)]) w_8 fun f8w m1 =>
 xcond f8w
 (R (Value.int .i64 4) m1)
 (xcut (fun c9f k6 => c1g (nth c9f 0) k6 R E) fun j4 =>
 opK Tryd.prog E (xV (Instr.loadAt 21 x1)) m1 fun e8N o3 =>
 opK Tryd.prog E (xBin .eql 21 (.tmp 40) (.const (Value.int .i32 95)) e8N (Value.int .i32 95)) o3 fun d3p q7 =>
 xcond d3p
 (j4 [d3p] q7)
 (opK Tryd.prog E (xCall b7g [(Value.int .i32 97), (Value.int .i32 122)]) q7 fun b9B r6 =>
 xcond b9B
 (j4 [b9B] r6)
 (opK Tryd.prog E (xCall b7g [(Value.int .i32 65), (Value.int .i32 90)]) r6 fun d3q o7 =>
 xcond d3q
 (j4 [d3q] o7)
 (opK Tryd.prog E (xCall b7g [(Value.int .i32 192), (Value.int .i32 591)]) o7 fun d3r r7 =>
 xcond d3r
 (j4 [d3r] r7)
 (opK Tryd.prog E (xCall b7g [(Value.int .i32 913), (Value.int .i32 969)]) r7 fun d3s r5 =>
 xcond d3s
 (j4 [d3s] r5)
 (opK Tryd.prog E (xCall b7g [(Value.int .i32 1040), (Value.int .i32 1103)]) r5 fun e8O u6 =>
 j4 [e8O] u6))))))))
def c1i (x1 x4 x11 : Value) (w : World) (R : Value → World → Prop) (E : Pan) : Prop :=
 ∀ _τ : Fr, (xcond x11
 (R (Value.int .i64 5) w)
 (xcut (fun a6p v8 => c1h x1 (nth a6p 0) v8 R E) fun j3 =>
 opK Tryd.prog E (xBin .eql 21 (.tmp 4) (.const (Value.int .i32 215)) x4 (Value.int .i32 215)) w fun b6s t7 =>
 xcond b6s
 (j3 [b6s] t7)
 (opK Tryd.prog E (xBin .eql 21 (.tmp 4) (.const (Value.int .i32 247)) x4 (Value.int .i32 247)) t7 fun d3t y8 =>
 xcond d3t
 (j3 [d3t] y8)
 (opK Tryd.prog E (xBin .eql 21 (.tmp 4) (.const (Value.int .i32 930)) x4 (Value.int .i32 930)) y8 fun e8P A8 =>
 j3 [e8P] A8))))
def c1j (x1 x4 x5 : Value) (w : World) (R : Value → World → Prop) (E : Pan) : Prop :=
 ∀ _τ : Fr, (xcond x5
 (R (Value.int .i64 1) w)
 (opK Tryd.prog E (xBin .eql 21 (.tmp 4) (.const (Value.int .i32 10)) x4 (Value.int .i32 10)) w fun a2Y w_6 =>
 xcond a2Y
 (R (Value.int .i64 2) w_6)
 (xcut (fun b4j B2 => c1i x1 x4 (nth b4j 0) B2 R E) fun j2 =>
 opK Tryd.prog E (xBin .eql 21 (.tmp 4) (.const (Value.int .i32 59)) x4 (Value.int .i32 59)) w_6 fun d3u v2 =>
 xcond d3u
 (j2 [d3u] v2)
 (opK Tryd.prog E (xBin .eql 21 (.tmp 4) (.const (Value.int .i32 44)) x4 (Value.int .i32 44)) v2 fun d3v C3 =>
 xcond d3v
 (j2 [d3v] C3)
 (opK Tryd.prog E (xBin .eql 21 (.tmp 4) (.const (Value.int .i32 123)) x4 (Value.int .i32 123)) C3 fun d3w G5 =>
 xcond d3w
 (j2 [d3w] G5)
 (opK Tryd.prog E (xBin .eql 21 (.tmp 4) (.const (Value.int .i32 125)) x4 (Value.int .i32 125)) G5 fun b9I E5 =>
 xcond b9I
 (j2 [b9I] E5)
 (opK Tryd.prog E (xBin .eql 21 (.tmp 4) (.const (Value.int .i32 40)) x4 (Value.int .i32 40)) E5 fun b9J K0 =>
 xcond b9J
 (j2 [b9J] K0)
 (opK Tryd.prog E (xBin .eql 21 (.tmp 4) (.const (Value.int .i32 41)) x4 (Value.int .i32 41)) K0 fun b9K I8 =>
 xcond b9K
 (j2 [b9K] I8)
 (opK Tryd.prog E (xBin .eql 21 (.tmp 4) (.const (Value.int .i32 91)) x4 (Value.int .i32 91)) I8 fun b9L I9 =>
 xcond b9L
 (j2 [b9L] I9)
 (opK Tryd.prog E (xBin .eql 21 (.tmp 4) (.const (Value.int .i32 93)) x4 (Value.int .i32 93)) I9 fun b3q O7 =>
 xcond b3q
 (j2 [b3q] O7)
 (opK Tryd.prog E (xBin .eql 21 (.tmp 4) (.const (Value.int .i32 61)) x4 (Value.int .i32 61)) O7 fun b3r P6 =>
 xcond b3r
 (j2 [b3r] P6)
 (opK Tryd.prog E (xBin .eql 21 (.tmp 4) (.const (Value.int .i32 33)) x4 (Value.int .i32 33)) P6 fun b3s L4 =>
 xcond b3s
 (j2 [b3s] L4)
 (opK Tryd.prog E (xBin .eql 21 (.tmp 4) (.const (Value.int .i32 60)) x4 (Value.int .i32 60)) L4 fun b3t P7 =>
 xcond b3t
 (j2 [b3t] P7)
 (opK Tryd.prog E (xBin .eql 21 (.tmp 4) (.const (Value.int .i32 62)) x4 (Value.int .i32 62)) P7 fun b9C W5 =>
 xcond b9C
 (j2 [b9C] W5)
 (opK Tryd.prog E (xBin .eql 21 (.tmp 4) (.const (Value.int .i32 43)) x4 (Value.int .i32 43)) W5 fun d3x a0o =>
 xcond d3x
 (j2 [d3x] a0o)
 (opK Tryd.prog E (xBin .eql 21 (.tmp 4) (.const (Value.int .i32 45)) x4 (Value.int .i32 45)) a0o fun d3y V6 =>
 xcond d3y
 (j2 [d3y] V6)
 (opK Tryd.prog E (xBin .eql 21 (.tmp 4) (.const (Value.int .i32 42)) x4 (Value.int .i32 42)) V6 fun d3z a0p =>
 xcond d3z
 (j2 [d3z] a0p)
 (opK Tryd.prog E (xBin .eql 21 (.tmp 4) (.const (Value.int .i32 47)) x4 (Value.int .i32 47)) a0p fun d3A a0F =>
 xcond d3A
 (j2 [d3A] a0F)
 (opK Tryd.prog E (xBin .eql 21 (.tmp 4) (.const (Value.int .i32 37)) x4 (Value.int .i32 37)) a0F fun d3B O8 =>
 xcond d3B
 (j2 [d3B] O8)
 (opK Tryd.prog E (xBin .eql 21 (.tmp 4) (.const (Value.int .i32 38)) x4 (Value.int .i32 38)) O8 fun d3C a0G =>
 xcond d3C
 (j2 [d3C] a0G)
 (opK Tryd.prog E (xBin .eql 21 (.tmp 4) (.const (Value.int .i32 124)) x4 (Value.int .i32 124)) a0G fun e8Q a1h =>
 j2 [e8Q] a1h)))))))))))))))))))))
def c9g (x0 : Value) (w : World) (R : Value → World → Prop) (E : Pan) : Prop :=
 opK Tryd.prog E (xV (Instr.box 21 x0)) w fun t6 w_2 =>
 opK Tryd.prog E (xV (Instr.loadAt 21 t6)) w_2 fun b2P w_4 =>
 xcut (fun g1T a1i => c1j t6 b2P (nth g1T 0) a1i R E) fun j1 =>
 opK Tryd.prog E (xBin .eql 21 (.tmp 4) (.const (Value.int .i32 32)) b2P (Value.int .i32 32)) w_4 fun d8N a1Q =>
 xcond d8N
 (j1 [d8N] a1Q)
 (opK Tryd.prog E (xBin .eql 21 (.tmp 4) (.const (Value.int .i32 9)) b2P (Value.int .i32 9)) a1Q fun d8O a1R =>
 xcond d8O
 (j1 [d8O] a1R)
 (opK Tryd.prog E (xBin .eql 21 (.tmp 4) (.const (Value.int .i32 13)) b2P (Value.int .i32 13)) a1R fun f8x a2D =>
 j1 [f8x] a2D))
noncomputable def e8R : Code := Tryd.f126.body.getD .skip
def e8S : Hint := (.seq .none (.seq (.seq .none (.block (.cut [5] (.seq .none (.cond .none (.seq .none (.cond .none .none)))) (.cond (.seq .none .none) (.seq .none (.cond (.seq .none .none) (.cut [11] (.seq .none (.cond .none (.seq .none (.cond .none (.seq .none (.cond .none (.seq .none (.cond .none (.seq .none (.cond .none (.seq .none (.cond .none (.seq .none (.cond .none (.seq .none (.cond .none (.seq .none (.cond .none (.seq .none (.cond .none (.seq .none (.cond .none (.seq .none (.cond .none (.seq .none (.cond .none (.seq .none (.cond .none (.seq .none (.cond .none (.seq .none (.cond .none (.seq .none (.cond .none (.seq .none (.cond .none .none)))))))))))))))))))))))))))))))))))) (.cond (.seq .none .none) (.cut [31] (.seq .none (.cond .none (.seq .none (.cond .none .none)))) (.cond (.seq .none .none) .none)))))))))) (.seq .none (.seq (.block (.seq .none (.cond (.seq .none .none) (.cut [39] (.seq .none (.cond .none (.seq .none (.cond .none (.seq .none (.cond .none (.seq .none (.cond .none (.seq .none (.cond .none .none)))))))))) (.cond (.seq .none .none) .none))))) (.seq .none .none)))))
theorem e0v (x0 : Value) (w : World) (R : Value → World → Prop) (E : Pan) : c9g x0 w R E = callX Tryd.prog [.tmp 2] e8R e8S [x0] w R E := by kernel_rfl
theorem e0w {x0 : Value} {w : World} {R : Value → World → Prop} {E : Pan} (h : c9g x0 w R E) : Cv Tryd.prog 126 #[x0] w R E := by
 refine g8 (args := [x0]) (c := e8R) (h := e8S) (rs := [.tmp 2]) Tryd.func126 (by kernel_rfl) (by kernel_rfl) (Nat.le_of_ble_eq_true (by kernel_rfl)) (by kernel_rfl) (by kernel_rfl) (by kernel_rfl) ?_
 rw [← e0v]
 exact h
def c1k (w : World) (R : Value → World → Prop) (_E : Pan) : Prop :=
 ∀ _τ : Fr, (R (Value.int .i64 (-1)) w)
def c7T (x0 x1 x7 x8 : Value) (w : World) (next2 : List Value → World → Prop) (j1 : List Value → World → Prop) (R : Value → World → Prop) (E : Pan) : Prop :=
 opK Tryd.prog E (xBin .lss 3 (.tmp 8) (.tmp 7) x8 x7) w fun g1U w_6 =>
 xcond g1U
 (opK Tryd.prog E (xV (Instr.indexAt 47 x0 x8)) w_6 fun b9M w_8 =>
 opK Tryd.prog E (xV (Instr.loadAt 9 b9M)) w_8 fun b0l m1 =>
 opK Tryd.prog E (xBin .eql 9 (.tmp 11) (.tmp 15) x1 b0l) m1 fun a4Q k6 =>
 xcond a4Q
 (R x8 k6)
 (opK Tryd.prog E (xBin .add 3 (.tmp 8) (.const (Value.int .i64 1)) x8 (Value.int .i64 1)) k6 fun a5t o3 =>
 next2 [a5t] o3))
 (j1 [] w_6)
def c9h (x0 x1 : Value) (w : World) (R : Value → World → Prop) (E : Pan) : Prop :=
 xcut (fun _ w_2 => c1k w_2 R E) fun j1 =>
 opK Tryd.prog E (xBuiltin .len #[47] 3 [false] [x0]) w fun a7C w_4 =>
 xloop [8] [(Value.int .i64 0)] w_4 fun τ_15 q7 next2 =>
 c7T x0 x1 a7C (τ_15 8) q7 next2 j1 R E
noncomputable def e8T : Code := Tryd.f127.body.getD .skip
def e8U : Hint := (.seq .none (.cut [] (.seq .none (.block (.loop [8] (.seq .none (.seq (.cond .none .none) (.seq (.block (.seq .none (.seq .none (.cond (.seq .none .none) .none)))) .none)))))) (.seq .none .none)))
theorem e0x (x0 x1 : Value) (w : World) (R : Value → World → Prop) (E : Pan) : c9h x0 x1 w R E = callX Tryd.prog [.tmp 4] e8T e8U [x0, x1] w R E := by kernel_rfl
theorem e0y {x0 x1 : Value} {w : World} {R : Value → World → Prop} {E : Pan} (h : c9h x0 x1 w R E) : Cv Tryd.prog 127 #[x0, x1] w R E := by
 refine g8 (args := [x0, x1]) (c := e8T) (h := e8U) (rs := [.tmp 4]) Tryd.func127 (by kernel_rfl) (by kernel_rfl) (Nat.le_of_ble_eq_true (by kernel_rfl)) (by kernel_rfl) (by kernel_rfl) (by kernel_rfl) ?_
 rw [← e0x]
 exact h
def c1l (x2 : Value) (w : World) (R : Value → World → Prop) (_E : Pan) : Prop :=
 ∀ _τ : Fr, (R x2 w)
def c7U (x2 x4 : Value) (w : World) (next2 : List Value → World → Prop) (j1 : List Value → World → Prop) (_R : Value → World → Prop) (E : Pan) : Prop :=
 opK Tryd.prog E (xV (Instr.next x4 true 0)) w fun a7E w_6 =>
 opK Tryd.prog E (xV (Instr.extract a7E 0)) w_6 fun a8O w_8 =>
 xcond a8O
 (opK Tryd.prog E (xBin .add 3 (.tmp 7) (.const (Value.int .i64 1)) x2 (Value.int .i64 1)) w_8 fun b0M m1 =>
 next2 [b0M] m1)
 (j1 [x2] w_8)
def c9i (x0 : Value) (w : World) (R : Value → World → Prop) (E : Pan) : Prop :=
 xcut (fun l_1 w_2 => c1l (nth l_1 0) w_2 R E) fun j1 =>
 opK Tryd.prog E (xV (Instr.range 9 x0)) w fun b2P w_4 =>
 xloop [2] [(Value.int .i64 0)] w_4 fun τ_11 k6 next2 =>
 c7U (τ_11 2) b2P k6 next2 j1 R E
noncomputable def e8V : Code := Tryd.f130.body.getD .skip
def e8W : Hint := (.seq .none (.cut [2] (.seq .none (.block (.loop [2] (.seq .none (.seq (.cond .none .none) (.block .none)))))) (.seq .none .none)))
theorem e0z (x0 : Value) (w : World) (R : Value → World → Prop) (E : Pan) : c9i x0 w R E = callX Tryd.prog [.tmp 2] e8V e8W [x0] w R E := by kernel_rfl
theorem e0A {x0 : Value} {w : World} {R : Value → World → Prop} {E : Pan} (h : c9i x0 w R E) : Cv Tryd.prog 130 #[x0] w R E := by
 refine g8 (args := [x0]) (c := e8V) (h := e8W) (rs := [.tmp 2]) Tryd.func130 (by kernel_rfl) (by kernel_rfl) (Nat.le_of_ble_eq_true (by kernel_rfl)) (by kernel_rfl) (by kernel_rfl) (by kernel_rfl) ?_
 rw [← e0z]
 exact h
def c9j (x0 x1 x2 : Value) (w : World) (R : Value → World → Prop) (E : Pan) : Prop :=
 opK Tryd.prog E (xV (Instr.loadAt 21 x2)) w fun b4a w_2 =>
 opK Tryd.prog E (xBin .leq 21 (.tmp 6) (.tmp 7) x0 b4a) w_2 fun c1d w_4 =>
 opK Tryd.prog E (gsem (asB c1d) true (xV (Instr.loadAt 21 x2))) w_4 fun a2Y w_6 =>
 opK Tryd.prog E (gsem (asB c1d) true (xBin .leq 21 (.tmp 10) (.tmp 11) a2Y (gval (asB c1d) true x1))) w_6 fun a5b w_8 =>
 opK Tryd.prog E (xPick c1d a5b (Value.bool false)) w_8 fun a6d m1 =>
 R a6d m1
noncomputable def e8X : Code := Tryd.f131.body.getD .skip
def e8Y : Hint := (.seq .none (.seq .none .none))
theorem e0B (x0 x1 x2 : Value) (w : World) (R : Value → World → Prop) (E : Pan) : c9j x0 x1 x2 w R E = callX Tryd.prog [.tmp 5] e8X e8Y [x0, x1, x2] w R E := by kernel_rfl
theorem e0C {x0 x1 x2 : Value} {w : World} {R : Value → World → Prop} {E : Pan} (h : c9j x0 x1 x2 w R E) : Cv Tryd.prog 131 #[x0, x1, x2] w R E := by
 refine g8 (args := [x0, x1, x2]) (c := e8X) (h := e8Y) (rs := [.tmp 5]) Tryd.func131 (by kernel_rfl) (by kernel_rfl) (Nat.le_of_ble_eq_true (by kernel_rfl)) (by kernel_rfl) (by kernel_rfl) (by kernel_rfl) ?_
 rw [← e0B]
 exact h
def c1m (x3 x59 : Value) (w : World) (R : Value → World → Prop) (E : Pan) : Prop :=
 ∀ _τ : Fr, (xcond x59
 (opK Tryd.prog E (xBin .eql 3 (.tmp 65) (.const (Value.int .i64 2)) x3 (Value.int .i64 2)) w fun e8Z a1Q =>
 R e8Z a1Q)
 (R (Value.bool false) w))
def c1n (x3 x38 x54 : Value) (w : World) (R : Value → World → Prop) (E : Pan) : Prop :=
 ∀ _τ : Fr, (xcond x54
 (opK Tryd.prog E (xBin .eql 3 (.tmp 57) (.const (Value.int .i64 1)) x3 (Value.int .i64 1)) w fun e9a a1i =>
 R e9a a1i)
 (xcut (fun a7O a1R => c1m x3 (nth a7O 0) a1R R E) fun j3 =>
 opK Tryd.prog E (xBin .eql 3 (.tmp 38) (.const (Value.int .i64 6)) x38 (Value.int .i64 6)) w fun b1g a2D =>
 xcond b1g
 (j3 [b1g] a2D)
 (opK Tryd.prog E (xBin .eql 3 (.tmp 38) (.const (Value.int .i64 7)) x38 (Value.int .i64 7)) a2D fun d3D a2R =>
 xcond d3D
 (j3 [d3D] a2R)
 (opK Tryd.prog E (xBin .eql 3 (.tmp 38) (.const (Value.int .i64 8)) x38 (Value.int .i64 8)) a2R fun d3E a2S =>
 xcond d3E
 (j3 [d3E] a2S)
 (opK Tryd.prog E (xBin .eql 3 (.tmp 38) (.const (Value.int .i64 9)) x38 (Value.int .i64 9)) a2S fun d3F a2T =>
 xcond d3F
 (j3 [d3F] a2T)
 (opK Tryd.prog E (xBin .eql 3 (.tmp 38) (.const (Value.int .i64 10)) x38 (Value.int .i64 10)) a2T fun e9b a4N =>
 j3 [e9b] a4N))))))
def c1o (x3 x38 x49 : Value) (w : World) (R : Value → World → Prop) (E : Pan) : Prop :=
 ∀ _τ : Fr, (xcond x49
 (opK Tryd.prog E (xBin .eql 3 (.tmp 52) (.const (Value.int .i64 0)) x3 (Value.int .i64 0)) w fun b6j a1h =>
 R b6j a1h)
 (xcut (fun g1V a4O => c1n x3 x38 (nth g1V 0) a4O R E) fun j2 =>
 opK Tryd.prog E (xBin .eql 3 (.tmp 38) (.const (Value.int .i64 4)) x38 (Value.int .i64 4)) w fun d3G a4r =>
 xcond d3G
 (j2 [d3G] a4r)
 (opK Tryd.prog E (xBin .eql 3 (.tmp 38) (.const (Value.int .i64 5)) x38 (Value.int .i64 5)) a4r fun e9c a3R =>
 j2 [e9c] a3R)))
def c9k (x0 : Value) (w : World) (R : Value → World → Prop) (E : Pan) : Prop :=
 opK Tryd.prog E (xV (Instr.box 96 x0)) w fun t6 w_2 =>
 opK Tryd.prog E (xV (Instr.fieldAt 96 t6 0)) w_2 fun d4W w_4 =>
 opK Tryd.prog E (xV (Instr.fieldAt 30 d4W 3)) w_4 fun d4X w_6 =>
 opK Tryd.prog E (xV (Instr.loadAt 28 d4X)) w_6 fun a4Z w_8 =>
 opK Tryd.prog E (xBuiltin .len #[28] 3 [false] [a4Z]) w_8 fun a6n m1 =>
 opK Tryd.prog E (xV (Instr.loadAt 96 t6)) m1 fun b0N k6 =>
 opK Tryd.prog E (xV (Instr.makeInterface 96 b0N)) k6 fun c4u o3 =>
 opK Tryd.prog E (xCall (Value.func (.func 114) #[] #[]) [c4u]) o3 fun b9G q7 =>
 opK Tryd.prog E (xV (Instr.extract b9G 0)) q7 fun _t14_17 r6 =>
 opK Tryd.prog E (xV (Instr.extract b9G 1)) r6 fun c4v o7 =>
 opK Tryd.prog E (xV (Instr.fieldAt 96 t6 0)) o7 fun c4w r7 =>
 opK Tryd.prog E (xV (Instr.fieldAt 30 c4w 0)) r7 fun e9d r5 =>
 opK Tryd.prog E (xV (Instr.loadAt 3 e9d)) r5 fun e9e u6 =>
 opK Tryd.prog E (xBin .neq 3 (.tmp 18) (.const (Value.int .i64 1)) e9e (Value.int .i64 1)) u6 fun b0T v8 =>
 opK Tryd.prog E (gsem (asB b0T) true (xV (Instr.fieldAt 96 t6 0))) v8 fun e9f t7 =>
 opK Tryd.prog E (gsem (asB b0T) true (xV (Instr.fieldAt 30 e9f 1))) t7 fun e9g y8 =>
 opK Tryd.prog E (gsem (asB b0T) true (xV (Instr.loadAt 2 e9g))) y8 fun e9h A8 =>
 opK Tryd.prog E (gsem (asB b0T) true (xBin .neq 2 (.tmp 23) (.const (Value.int .i64 0)) e9h (Value.int .i64 0))) A8 fun e9i B2 =>
 opK Tryd.prog E (xPick b0T e9i (Value.bool false)) B2 fun a7P v2 =>
 opK Tryd.prog E (gsem (asB a7P) false (xV (Op.unary .not (gval (asB a7P) false c4v)))) v2 fun b1h C3 =>
 opK Tryd.prog E (gsem (asB (gval (asB a7P) false b1h)) true (xV (Instr.fieldAt 96 t6 0))) C3 fun e9j G5 =>
 opK Tryd.prog E (gsem (asB (gval (asB a7P) false b1h)) true (xV (Instr.fieldAt 30 e9j 2))) G5 fun e9k E5 =>
 opK Tryd.prog E (gsem (asB (gval (asB a7P) false b1h)) true (xV (Instr.loadAt 9 e9k))) E5 fun c4h K0 =>
 opK Tryd.prog E (gsem (asB (gval (asB a7P) false b1h)) true (xBin .neq 9 (.tmp 32) (.const (Value.string ⟨#[]⟩)) c4h (Value.string ⟨#[]⟩))) K0 fun c4i I8 =>
 opK Tryd.prog E (gsem (asB a7P) false (xPick (gval (asB a7P) false b1h) c4i (Value.bool false))) I8 fun c4j I9 =>
 opK Tryd.prog E (xPick a7P (Value.bool true) c4j) I9 fun e9l O7 =>
 xcond e9l
 (R (Value.bool false) O7)
 (opK Tryd.prog E (xV (Instr.fieldAt 96 t6 0)) O7 fun c4x P6 =>
 opK Tryd.prog E (xV (Instr.fieldAt 30 c4x 0)) P6 fun e9m L4 =>
 opK Tryd.prog E (xV (Instr.loadAt 3 e9m)) L4 fun b9N P7 =>
 opK Tryd.prog E (xBin .eql 3 (.tmp 38) (.const (Value.int .i64 1)) b9N (Value.int .i64 1)) P7 fun e9n W5 =>
 xcond e9n
 (opK Tryd.prog E (xV (Instr.fieldAt 96 t6 0)) W5 fun e9o a0o =>
 opK Tryd.prog E (xV (Instr.fieldAt 30 e9o 1)) a0o fun e9p V6 =>
 opK Tryd.prog E (xV (Instr.loadAt 2 e9p)) V6 fun e9q a0p =>
 opK Tryd.prog E (xBin .geq 2 (.tmp 43) (.const (Value.int .i64 0)) e9q (Value.int .i64 0)) a0p fun c4A a0F =>
 opK Tryd.prog E (gsem (asB c4A) true (xBin .eql 3 (.tmp 46) (.const (Value.int .i64 0)) (gval (asB c4A) true a6n) (Value.int .i64 0))) a0F fun c4B O8 =>
 opK Tryd.prog E (xPick c4A c4B (Value.bool false)) O8 fun c4C a0G =>
 R c4C a0G)
 (xcut (fun e9r a4P => c1o a6n b9N (nth e9r 0) a4P R E) fun j1 =>
 opK Tryd.prog E (xBin .eql 3 (.tmp 38) (.const (Value.int .i64 2)) b9N (Value.int .i64 2)) W5 fun d3H a2J =>
 xcond d3H
 (j1 [d3H] a2J)
 (opK Tryd.prog E (xBin .eql 3 (.tmp 38) (.const (Value.int .i64 3)) b9N (Value.int .i64 3)) a2J fun e0D a2K =>
 j1 [e0D] a2K)))
noncomputable def e9s : Code := Tryd.f148.body.getD .skip
def e9t : Hint := (.seq .none (.seq .none (.seq .none (.seq (.seq .none (.cond (.seq .none .none) .none)) (.seq (.seq .none (.block (.seq .none (.cond (.seq .none .none) (.cut [49] (.seq .none (.cond .none .none)) (.cond (.seq .none .none) (.cut [54] (.seq .none (.cond .none .none)) (.cond (.seq .none .none) (.cut [59] (.seq .none (.cond .none (.seq .none (.cond .none (.seq .none (.cond .none (.seq .none (.cond .none .none)))))))) (.cond (.seq .none .none) .none)))))))))) (.seq .none .none))))))
theorem e0E (x0 : Value) (w : World) (R : Value → World → Prop) (E : Pan) : c9k x0 w R E = callX Tryd.prog [.tmp 2] e9s e9t [x0] w R E := by kernel_rfl
theorem e0F {x0 : Value} {w : World} {R : Value → World → Prop} {E : Pan} (h : c9k x0 w R E) : Cv Tryd.prog 148 #[x0] w R E := by
 refine g8 (args := [x0]) (c := e9s) (h := e9t) (rs := [.tmp 2]) Tryd.func148 (by kernel_rfl) (by kernel_rfl) (Nat.le_of_ble_eq_true (by kernel_rfl)) (by kernel_rfl) (by kernel_rfl) (by kernel_rfl) ?_
 rw [← e0E]
 exact h
def c9l (x0 : Value) (w : World) (R : Value → World → Prop) (E : Pan) : Prop :=
 opK Tryd.prog E (xV (Instr.box 96 x0)) w fun t6 w_2 =>
 opK Tryd.prog E (xV (Instr.fieldAt 96 t6 0)) w_2 fun F7 w_4 =>
 opK Tryd.prog E (xV (Instr.fieldAt 30 F7 3)) w_4 fun a2P w_6 =>
 opK Tryd.prog E (xV (Instr.loadAt 28 a2P)) w_6 fun a4Y w_8 =>
 opK Tryd.prog E (xCall (Value.func (.func 150) #[] #[]) [a4Y, (Value.func (.func 151) #[] #[])]) w_8 fun a8P m1 =>
 R a8P m1
noncomputable def e9u : Code := Tryd.f149.body.getD .skip
def e9v : Hint := (.seq .none (.seq .none .none))
theorem e0G (x0 : Value) (w : World) (R : Value → World → Prop) (E : Pan) : c9l x0 w R E = callX Tryd.prog [.tmp 2] e9u e9v [x0] w R E := by kernel_rfl
theorem e0H {x0 : Value} {w : World} {R : Value → World → Prop} {E : Pan} (h : c9l x0 w R E) : Cv Tryd.prog 149 #[x0] w R E := by
 refine g8 (args := [x0]) (c := e9u) (h := e9v) (rs := [.tmp 2]) Tryd.func149 (by kernel_rfl) (by kernel_rfl) (Nat.le_of_ble_eq_true (by kernel_rfl)) (by kernel_rfl) (by kernel_rfl) (by kernel_rfl) ?_
 rw [← e0G]
 exact h
def c1p (x5 : Value) (w : World) (R : Value → World → Prop) (_E : Pan) : Prop :=
 ∀ _τ : Fr, (R x5 w)
def c7V (x1 x5 x8 x9 x10 : Value) (w : World) (next2 : List Value → World → Prop) (j1 : List Value → World → Prop) (_R : Value → World → Prop) (E : Pan) : Prop :=
 opK Tryd.prog E (xBin .lss 3 (.tmp 10) (.tmp 9) x10 x9) w fun a7I w_6 =>
 xcond a7I
 (opK Tryd.prog E (xV (Instr.indexAt 28 x8 x10)) w_6 fun a5b w_8 =>
 opK Tryd.prog E (xV (Instr.loadAt 30 a5b)) w_8 fun a6d m1 =>
 opK Tryd.prog E (xV (Instr.alloc 30 true (.tuple #[]))) m1 fun a4d k6 =>
 opK Tryd.prog E (xU (Instr.storeAt 30 a4d a6d)) k6 fun _z_13 o3 =>
 opK Tryd.prog E (xV (Instr.loadAt 30 a4d)) o3 fun b1i q7 =>
 opK Tryd.prog E (xCall x1 [b1i]) q7 fun b1j r6 =>
 opK Tryd.prog E (xV (Instr.buildSlice 97 1 #[(0, b1j)])) r6 fun b1k o7 =>
 opK Tryd.prog E (xBuiltin .append #[97, 97] 97 [false, false] [x5, b1k]) o7 fun b1l r7 =>
 opK Tryd.prog E (xBin .add 3 (.tmp 10) (.const (Value.int .i64 1)) x10 (Value.int .i64 1)) r7 fun b1m r5 =>
 next2 [b1l, b1m] r5)
 (j1 [x5] w_6)
def c9m (x0 x1 : Value) (w : World) (R : Value → World → Prop) (E : Pan) : Prop :=
 xcut (fun l_1 w_2 => c1p (nth l_1 0) w_2 R E) fun j1 =>
 opK Tryd.prog E (xBuiltin .len #[28] 3 [false] [x0]) w fun a5a w_4 =>
 xloop [5, 10] [(Value.slice none 0 0), (Value.int .i64 0)] w_4 fun τ_25 u6 next2 =>
 c7V x1 (τ_25 5) x0 a5a (τ_25 10) u6 next2 j1 R E
noncomputable def e9w : Code := Tryd.f150.body.getD .skip
def e9x : Hint := (.seq .none (.seq .none (.cut [5] (.seq .none (.block (.loop [5, 10] (.seq .none (.seq (.cond .none .none) (.seq (.block (.seq .none .none)) .none)))))) (.seq .none .none))))
theorem e0I (x0 x1 : Value) (w : World) (R : Value → World → Prop) (E : Pan) : c9m x0 x1 w R E = callX Tryd.prog [.tmp 4] e9w e9x [x0, x1] w R E := by kernel_rfl
theorem e0J {x0 x1 : Value} {w : World} {R : Value → World → Prop} {E : Pan} (h : c9m x0 x1 w R E) : Cv Tryd.prog 150 #[x0, x1] w R E := by
 refine g8 (args := [x0, x1]) (c := e9w) (h := e9x) (rs := [.tmp 4]) Tryd.func150 (by kernel_rfl) (by kernel_rfl) (Nat.le_of_ble_eq_true (by kernel_rfl)) (by kernel_rfl) (by kernel_rfl) (by kernel_rfl) ?_
 rw [← e0I]
 exact h
def c9n (x0 : Value) (w : World) (R : Value → World → Prop) (E : Pan) : Prop :=
 opK Tryd.prog E (xV (Instr.box 30 x0)) w fun t6 w_2 =>
 opK Tryd.prog E (xV (Instr.loadAt 30 t6)) w_2 fun F7 w_4 =>
 opK Tryd.prog E (xV (Instr.build 96 #[(0, F7)])) w_4 fun a2P w_6 =>
 opK Tryd.prog E (xV (Instr.makeInterface 96 a2P)) w_6 fun a4Y w_8 =>
 R a4Y w_8
noncomputable def e9y : Code := Tryd.f151.body.getD .skip
def e9z : Hint := (.seq .none (.seq .none .none))
theorem e0K (x0 : Value) (w : World) (R : Value → World → Prop) (E : Pan) : c9n x0 w R E = callX Tryd.prog [.tmp 2] e9y e9z [x0] w R E := by kernel_rfl
theorem e0L {x0 : Value} {w : World} {R : Value → World → Prop} {E : Pan} (h : c9n x0 w R E) : Cv Tryd.prog 151 #[x0] w R E := by
 refine g8 (args := [x0]) (c := e9y) (h := e9z) (rs := [.tmp 2]) Tryd.func151 (by kernel_rfl) (by kernel_rfl) (Nat.le_of_ble_eq_true (by kernel_rfl)) (by kernel_rfl) (by kernel_rfl) (by kernel_rfl) ?_
 rw [← e0K]
 exact h
def c1q (x3 x50 : Value) (w : World) (R : Value → World → Prop) (E : Pan) : Prop :=
 ∀ _τ : Fr, (xcond x50
 (opK Tryd.prog E (xV (Instr.loadAt 209 x3)) w fun e9A a2T =>
 opK Tryd.prog E (xV (Instr.build 209 #[(0, (Value.int .i64 0)), (1, (Value.int .i64 2))])) a2T fun e9B a4N =>
 opK Tryd.prog E (xBin .eql 209 (.tmp 53) (.tmp 54) e9A e9B) a4N fun e9C a4O =>
 R e9C a4O)
 (R (Value.bool false) w))
def c1r (x3 x38 x39 : Value) (w : World) (R : Value → World → Prop) (E : Pan) : Prop :=
 ∀ _τ : Fr, (xcond x39
 (opK Tryd.prog E (xV (Instr.loadAt 209 x3)) w fun e9D a1h =>
 opK Tryd.prog E (xV (Instr.build 209 #[])) a1h fun e9E a1i =>
 opK Tryd.prog E (xBin .eql 209 (.tmp 42) (.tmp 43) e9D e9E) a1i fun e9F a1Q =>
 R e9F a1Q)
 (opK Tryd.prog E (xBin .eql 3 (.tmp 38) (.const (Value.int .i64 4)) x38 (Value.int .i64 4)) w fun e9G a1R =>
 xcond e9G
 (opK Tryd.prog E (xV (Instr.loadAt 209 x3)) a1R fun e9H a2D =>
 opK Tryd.prog E (xV (Instr.build 209 #[(0, (Value.int .i64 0)), (1, (Value.int .i64 1))])) a2D fun e9I a2R =>
 opK Tryd.prog E (xBin .eql 209 (.tmp 47) (.tmp 48) e9H e9I) a2R fun e9J a2S =>
 R e9J a2S)
 (xcut (fun c4D a4r => c1q x3 (nth c4D 0) a4r R E) fun j2 =>
 opK Tryd.prog E (xBin .eql 3 (.tmp 38) (.const (Value.int .i64 5)) x38 (Value.int .i64 5)) a1R fun d3I a3R =>
 xcond d3I
 (j2 [d3I] a3R)
 (opK Tryd.prog E (xBin .eql 3 (.tmp 38) (.const (Value.int .i64 6)) x38 (Value.int .i64 6)) a3R fun c4m a4P =>
 j2 [c4m] a4P))))
def c9o (x0 : Value) (w : World) (R : Value → World → Prop) (E : Pan) : Prop :=
 opK Tryd.prog E (xV (Instr.box 106 x0)) w fun t6 w_2 =>
 opK Tryd.prog E (xV (Instr.fieldAt 106 t6 0)) w_2 fun b2P w_4 =>
 opK Tryd.prog E (xV (Instr.fieldAt 33 b2P 2)) w_4 fun a7E w_6 =>
 opK Tryd.prog E (xV (Instr.loadAt 28 a7E)) w_6 fun a8O w_8 =>
 opK Tryd.prog E (xBuiltin .len #[28] 3 [false] [a8O]) w_8 fun b8g m1 =>
 opK Tryd.prog E (xV (Instr.fieldAt 106 t6 0)) m1 fun a7G k6 =>
 opK Tryd.prog E (xV (Instr.fieldAt 33 a7G 3)) k6 fun V9 o3 =>
 opK Tryd.prog E (xV (Instr.loadAt 31 V9)) o3 fun b6t q7 =>
 opK Tryd.prog E (xBuiltin .len #[31] 3 [false] [b6t]) q7 fun b6u r6 =>
 opK Tryd.prog E (xV (Instr.build 209 #[(0, b8g), (1, b6u)])) r6 fun c4E o7 =>
 opK Tryd.prog E (xV (Instr.alloc 209 true (.tuple #[]))) o7 fun c9p r7 =>
 opK Tryd.prog E (xU (Instr.storeAt 209 c9p c4E)) r7 fun _z_23 r5 =>
 opK Tryd.prog E (xV (Instr.fieldAt 106 t6 0)) r5 fun e9K u6 =>
 opK Tryd.prog E (xV (Instr.fieldAt 33 e9K 0)) u6 fun e9L v8 =>
 opK Tryd.prog E (xV (Instr.loadAt 3 e9L)) v8 fun e9M t7 =>
 opK Tryd.prog E (xBin .eql 3 (.tmp 15) (.const (Value.int .i64 3)) e9M (Value.int .i64 3)) t7 fun e9N y8 =>
 xcond e9N
 (opK Tryd.prog E (xV (Instr.fieldAt 106 t6 0)) y8 fun c4r A8 =>
 opK Tryd.prog E (xV (Instr.fieldAt 33 c4r 1)) A8 fun b6m B2 =>
 opK Tryd.prog E (xV (Instr.loadAt 3 b6m)) B2 fun e9O v2 =>
 opK Tryd.prog E (xBin .geq 3 (.tmp 19) (.const (Value.int .i64 1)) e9O (Value.int .i64 1)) v2 fun b6v C3 =>
 opK Tryd.prog E (gsem (asB b6v) true (xV (Instr.fieldAt 106 t6 0))) C3 fun e9P G5 =>
 opK Tryd.prog E (gsem (asB b6v) true (xV (Instr.fieldAt 33 e9P 1))) G5 fun e9Q E5 =>
 opK Tryd.prog E (gsem (asB b6v) true (xV (Instr.loadAt 3 e9Q))) E5 fun e9R K0 =>
 opK Tryd.prog E (gsem (asB b6v) true (xBin .leq 3 (.tmp 24) (.const (Value.int .i64 6)) e9R (Value.int .i64 6))) K0 fun e9S I8 =>
 opK Tryd.prog E (xPick b6v e9S (Value.bool false)) I8 fun b9O I9 =>
 opK Tryd.prog E (gsem (asB b9O) true (xV (Instr.loadAt 209 c9p))) I9 fun b6w O7 =>
 opK Tryd.prog E (gsem (asB b9O) true (xV (Instr.build 209 #[(0, (Value.int .i64 2)), (1, (Value.int .i64 0))]))) O7 fun e9T P6 =>
 opK Tryd.prog E (gsem (asB b9O) true (xBin .eql 209 (.tmp 28) (.tmp 29) b6w e9T)) P6 fun e9U L4 =>
 opK Tryd.prog E (xPick b9O e9U (Value.bool false)) L4 fun e9V P7 =>
 R e9V P7)
 (opK Tryd.prog E (xV (Instr.fieldAt 106 t6 0)) y8 fun e9W W5 =>
 opK Tryd.prog E (xV (Instr.fieldAt 33 e9W 1)) W5 fun e9X a0o =>
 opK Tryd.prog E (xV (Instr.loadAt 3 e9X)) a0o fun e9Y V6 =>
 opK Tryd.prog E (xBin .neq 3 (.tmp 34) (.const (Value.int .i64 0)) e9Y (Value.int .i64 0)) V6 fun e9Z a0p =>
 xcond e9Z
 (R (Value.bool false) a0p)
 (opK Tryd.prog E (xV (Instr.fieldAt 106 t6 0)) a0p fun f0a a0F =>
 opK Tryd.prog E (xV (Instr.fieldAt 33 f0a 0)) a0F fun f0b O8 =>
 opK Tryd.prog E (xV (Instr.loadAt 3 f0b)) O8 fun c4F a0G =>
 xcut (fun d4Y a2J => c1r c9p c4F (nth d4Y 0) a2J R E) fun j1 =>
 opK Tryd.prog E (xBin .eql 3 (.tmp 38) (.const (Value.int .i64 1)) c4F (Value.int .i64 1)) a0G fun c7W a2K =>
 xcond c7W
 (j1 [c7W] a2K)
 (opK Tryd.prog E (xBin .eql 3 (.tmp 38) (.const (Value.int .i64 2)) c4F (Value.int .i64 2)) a2K fun e0M a3D =>
 j1 [e0M] a3D)))
noncomputable def f0c : Code := Tryd.f152.body.getD .skip
def f0d : Hint := (.seq .none (.seq .none (.seq (.seq .none (.cond (.seq .none .none) .none)) (.seq (.seq .none (.cond (.seq .none .none) .none)) (.seq (.seq .none (.block (.cut [39] (.seq .none (.cond .none .none)) (.cond (.seq .none .none) (.seq .none (.cond (.seq .none .none) (.cut [50] (.seq .none (.cond .none .none)) (.cond (.seq .none .none) .none)))))))) (.seq .none .none))))))
theorem e0N (x0 : Value) (w : World) (R : Value → World → Prop) (E : Pan) : c9o x0 w R E = callX Tryd.prog [.tmp 2] f0c f0d [x0] w R E := by kernel_rfl
theorem e0O {x0 : Value} {w : World} {R : Value → World → Prop} {E : Pan} (h : c9o x0 w R E) : Cv Tryd.prog 152 #[x0] w R E := by
 refine g8 (args := [x0]) (c := f0c) (h := f0d) (rs := [.tmp 2]) Tryd.func152 (by kernel_rfl) (by kernel_rfl) (Nat.le_of_ble_eq_true (by kernel_rfl)) (by kernel_rfl) (by kernel_rfl) (by kernel_rfl) ?_
 rw [← e0N]
 exact h
def c9q (x0 : Value) (w : World) (R : Value → World → Prop) (E : Pan) : Prop :=
 opK Tryd.prog E (xV (Instr.box 106 x0)) w fun t6 w_2 =>
 dX w_2 fun w_3 =>
 qP Tryd.prog (xV (Instr.fieldAt 106 t6 0)) fun c1b =>
 qP Tryd.prog (xV (Instr.fieldAt 33 c1b 2)) fun a2P =>
 qP Tryd.prog (xV (Instr.fieldAt 106 t6 0)) fun d4Z =>
 qP Tryd.prog (xV (Instr.fieldAt 33 d4Z 3)) fun a4Z =>
 qL Tryd.prog w_3 (blk a2P) (xV (Instr.loadAt 28 a2P)) fun d4T =>
 qL Tryd.prog w_3 (blk a4Z) (xV (Instr.loadAt 31 a4Z)) fun a6n =>
 opK Tryd.prog E (xCall (Value.func (.func 150) #[] #[]) [d4T, (Value.func (.func 151) #[] #[])]) w_3 fun f8y Y2 =>
 keepX [(blk a4Z)] w_3 Y2 (opK Tryd.prog E (xCall (Value.func (.func 154) #[] #[]) [a6n, (Value.func (.func 155) #[] #[])]) Y2 fun c4G V5 =>
 keepX [] Y2 V5 (opK Tryd.prog E (xV (Instr.buildSlice 172 2 #[(0, f8y), (1, c4G)])) V5 fun c4H a1C =>
 keepX [] V5 a1C (opK Tryd.prog E (xCall (Value.func (.func 94) #[] #[]) [c4H]) a1C fun f0e a5c =>
 keepX [] a1C a5c (R f0e a5c))))
noncomputable def f0f : Code := Tryd.f153.body.getD .skip
def f0g : Hint := (.seq .none (.seq (.reg [(0, 8, 2), (1, 16, 8), (2, 32, 16), (4, 64, 32), (0, 128, 2), (16, 256, 128), (32, 512, 256), (72, 1024, 512), (136, 2048, 1088), (384, 4096, 2048), (1023, 4, 4096)] [68, 68, 64, 64, 68, 68, 4, 0, 0, 0, 68] (.early 0 (.early 1 (.early 4 (.early 5 (.load 2 (.load 6 (.step 3 (.step 7 (.step 8 (.step 9 (.early 10 .done)))))))))))) .none))
theorem e0P (x0 : Value) (w : World) (R : Value → World → Prop) (E : Pan) : c9q x0 w R E = callX Tryd.prog [.tmp 2] f0f f0g [x0] w R E := by kernel_rfl
theorem e0Q {x0 : Value} {w : World} {R : Value → World → Prop} {E : Pan} (h : c9q x0 w R E) : Cv Tryd.prog 153 #[x0] w R E := by
 refine g8 (args := [x0]) (c := f0f) (h := f0g) (rs := [.tmp 2]) Tryd.func153 (by kernel_rfl) (by kernel_rfl) (Nat.le_of_ble_eq_true (by kernel_rfl)) (by kernel_rfl) (by kernel_rfl) (by kernel_rfl) ?_
 rw [← e0P]
 exact h
end Go.Proofs.YthldnpmfelniiaaDoor
