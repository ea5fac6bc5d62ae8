/- The second reading of some of the program's functions, printed by gen.py off the code; each is held against the code by the kernel. -/
import Derived.Test.YthklmeihgmcljaaGreatDoorProg
import Derived.KernelRfl
import Derived.Test.YthklmeihgmcljaaGreatDoorzNOEY
namespace Go.Proofs.YthklmeihgmcljaaGreatDoor.Od
open Go.RowKit
set_option maxRecDepth 100000
def b3S (w : World) (R : Value → World → Prop) : Prop :=
 opK Tryz.prog (xV (Instr.alloc 28 true (.tuple #[]))) w fun c4n w_2 =>
 opK Tryz.prog (xV (Instr.build 28 #[(0, (Value.int .i64 1)), (1, (Value.int .i64 1))])) w_2 fun c7m w_4 =>
 opK Tryz.prog (xU (Instr.storeAt 28 c4n c7m)) w_4 fun _z_5 w_6 =>
 xcell Tryz.prog 28 c4n w_6 fun r_7 =>
 R r_7 w_6
noncomputable def c4o : Code := Tryz.f129.body.getD .skip
def b6z : Hint := (.seq .none (.seq .none .none))
set_option maxRecDepth 100000 in
theorem c1u (w : World) (R : Value → World → Prop) : b3S  w R = callX Tryz.prog [.cell 0 28] c4o b6z [] w R := by kernel_rfl
theorem b5s {w : World} {R : Value → World → Prop} (h : b3S  w R) : Cv Tryz.prog 129 #[] w R :=
 a4n (args := []) (c := c4o) (h := b6z) Tryz.func129 (by kernel_rfl) (Nat.le_of_ble_eq_true (by kernel_rfl)) (by kernel_rfl) (by kernel_rfl) (by kernel_rfl) ((c1u  w R).mp h)
def b3U (x0 x1 : Value) (w : World) (R : Value → World → Prop) : Prop :=
 opK Tryz.prog (xV (Instr.box 28 x0)) w fun b8S w_2 =>
 opK Tryz.prog (xV (Instr.alloc 28 true (.tuple #[]))) w_2 fun b6K w_4 =>
 opK Tryz.prog (xBin .eql 21 (.tmp 5) (.const (Value.int .i32 10)) x1 (Value.int .i32 10)) w_4 fun c7n w_6 =>
 xcond c7n
 (opK Tryz.prog (xV (Instr.fieldAt 28 b8S 0)) w_6 fun c7o w_8 =>
 opK Tryz.prog (xV (Instr.loadAt 3 c7o)) w_8 fun c7p b4h =>
 opK Tryz.prog (xBin .add 3 (.tmp 8) (.const (Value.int .i64 1)) c7p (Value.int .i64 1)) b4h fun c5H b4i =>
 opK Tryz.prog (xV (Instr.build 28 #[(0, c5H), (1, (Value.int .i64 1))])) b4i fun c4p c7q =>
 opK Tryz.prog (xU (Instr.storeAt 28 b6K c4p)) c7q fun _z_15 c4q =>
 xcell Tryz.prog 28 b6K c4q fun c7r =>
 R c7r c4q)
 (opK Tryz.prog (xV (Instr.fieldAt 28 b8S 0)) w_6 fun c4r c7s =>
 opK Tryz.prog (xV (Instr.loadAt 3 c4r)) c7s fun c4s b6L =>
 opK Tryz.prog (xV (Instr.fieldAt 28 b8S 1)) b6L fun c4t c7t =>
 opK Tryz.prog (xV (Instr.loadAt 3 c4t)) c7t fun c4u b8T =>
 opK Tryz.prog (xBin .add 3 (.tmp 14) (.const (Value.int .i64 1)) c4u (Value.int .i64 1)) b8T fun b4j b8U =>
 opK Tryz.prog (xV (Instr.build 28 #[(0, c4s), (1, b4j)])) b8U fun c4v b8V =>
 opK Tryz.prog (xU (Instr.storeAt 28 b6K c4v)) b8V fun _z_30 c4w =>
 xcell Tryz.prog 28 b6K c4w fun c7u =>
 R c7u c4w)
noncomputable def c4x : Code := Tryz.f150.body.getD .skip
def b6A : Hint := (.seq .none (.seq (.seq .none (.cond (.seq .none .none) .none)) (.seq .none .none)))
set_option maxRecDepth 100000 in
theorem c1v (x0 x1 : Value) (w : World) (R : Value → World → Prop) : b3U x0 x1 w R = callX Tryz.prog [.cell 4 28] c4x b6A [x0, x1] w R := by kernel_rfl
theorem b5v {x0 x1 : Value} {w : World} {R : Value → World → Prop} (h : b3U x0 x1 w R) : Cv Tryz.prog 150 #[x0, x1] w R :=
 a4n (args := [x0, x1]) (c := c4x) (h := b6A) Tryz.func150 (by kernel_rfl) (Nat.le_of_ble_eq_true (by kernel_rfl)) (by kernel_rfl) (by kernel_rfl) (by kernel_rfl) ((c1v x0 x1 w R).mp h)
end Go.Proofs.YthklmeihgmcljaaGreatDoor.Od
namespace Go.Proofs.YthklmeihgmcljaaGreatDoor.Od
open Go.RowKit
set_option maxRecDepth 100000
theorem a5k {w : World} {K : Value → World → Prop} : opK Tryz.prog (xV (Instr.alloc 28 true (.tuple #[]))) w K = K (.pointer (some ⟨w.heap.size, 0, none⟩)) (w.alloc (.cells #[(Value.int .i64 0), (Value.int .i64 0)] 28)) := b7U Tryz.zeroValue28
theorem a5F (x0 : Int) (x1 : Int) {w : World} {K : Value → World → Prop} : opK Tryz.prog (xV (Instr.build 28 #[(0, (.int .i64 x0)), (1, (.int .i64 x1))])) w K = K (.agg #[(.int .i64 x0), (.int .i64 x1)]) w := a1d (by kernel_rfl)
theorem a0y {g o : Nat} {v : Value} {w : World} {K : Value → World → Prop} (hn : v.cells.size = 2) (h : stH (w.heap[g]?) o v.cells.toList fun cs => K undef (w.setRow g cs)) : opK Tryz.prog (xU (Instr.storeAt 28 (.pointer (some ⟨g, o, none⟩)) v)) w K := b7T Tryz.sizeOf28 hn h
theorem b2t {g o : Nat} {w : World} {K : Value → World → Prop} : opK Tryz.prog (xV (Instr.fieldAt 28 (.pointer (some ⟨g, o, none⟩)) 0)) w K = K (.pointer (some ⟨g, o, none⟩)) w := a1d (by kernel_rfl)
theorem a5G {g o : Nat} {w : World} {K : Value → World → Prop} (h : ldH (w.heap[g]?) o 1 fun l => K (nth l 0) w) : opK Tryz.prog (xV (Instr.loadAt 3 (.pointer (some ⟨g, o, none⟩)))) w K := b2s Tryz.isAgg3 h
theorem b8d {g o : Nat} {w : World} {K : Value → World → Prop} : opK Tryz.prog (xV (Instr.fieldAt 28 (.pointer (some ⟨g, o, none⟩)) 1)) w K = K (.pointer (some ⟨g, o + 1, none⟩)) w := a1d (by kernel_rfl)
theorem a7m {g o : Nat} {w : World} {K : Value → Prop} (h : ldH (w.heap[g]?) o 2 fun l => K (.agg l.toArray)) : xcell Tryz.prog 28 (.pointer (some ⟨g, o, none⟩)) w K := xcellA Tryz.isAgg28 Tryz.sizeOf28 h
end Go.Proofs.YthklmeihgmcljaaGreatDoor.Od
namespace Go.Proofs.YthklmeihgmcljaaGreatDoor.Od
open Go.RowKit
set_option maxRecDepth 100000
def b0N (x4 x5 : Value) (ds : List Nat) (w : World) (R : Value → World → Prop) : Prop :=
 opK Tryz.prog (xV (Instr.loadAt 28 x5)) w fun c4y c7v =>
 opK Tryz.prog (xU (Instr.storeAt 28 x4 c4y)) c7v fun _z_19 b8W =>
 closeM ds b8W fun b6L => xcell Tryz.prog 28 x4 b6L fun c7w =>
 R c7w b6L
def F98 (x0 x1 : Value) (w : World) (R : Value → World → Prop) : Prop :=
 opK Tryz.prog (xV (Instr.box 3 x1)) w fun c7x w_3 =>
 opK Tryz.prog (xV (Instr.alloc 28 true (.tuple #[]))) w_3 fun b8X w_5 =>
 opK Tryz.prog (xCall (Value.func (.func 129) #[] #[]) []) w_5 fun c7y w_8 =>
 opK Tryz.prog (xV (Instr.alloc 28 true (.tuple #[]))) w_8 fun b6M b4h =>
 opK Tryz.prog (xU (Instr.storeAt 28 b6M c7y)) b4h fun _z_11 b4i =>
 opK Tryz.prog (xCall (Value.func (.func 130) #[] #[]) [x0]) b4i fun c4z b0d =>
 xrange Tryz.prog c4z 2 b0d (fun c4A b9V c7z c4B =>
 opK Tryz.prog (xV (Instr.alloc 28 true (.tuple #[]))) c7z fun b9W c7A =>
 opK Tryz.prog (xU (Instr.storeAt 28 b9W (nth b9V 1))) c7A fun _z_31 b8Y =>
 beginY (b0d.heap.size + 1) c4A b8Y fun c7B =>
 opK Tryz.prog (xV (Instr.loadAt 3 c7x)) c7B fun c4C b6N =>
 opK Tryz.prog (xBin .geq 3 (.tmp 13) (.tmp 14) (nth b9V 0) c4C) b6N fun c4D b6O =>
 xcond c4D
 (c4B (.exit 0) b6O)
 (opK Tryz.prog (xV (Instr.loadAt 28 b9W)) b6O fun c4E c7C =>
 opK Tryz.prog (xU (Instr.storeAt 28 b6M c4E)) c7C fun _z_42 c7D =>
 c4B .normal c7D))
 (fun c7E => b0N b8X b6M (b0d.heap.size :: []) c7E R) (fun c7F => closeM (b0d.heap.size :: []) c7F fun c4F => xcell Tryz.prog 28 b8X c4F fun c7G =>
 R c7G c4F) (fun c5I c7H => (bif Nat.beq c5I 0 then b0N b8X b6M (b0d.heap.size :: []) c7H R else False))
noncomputable def c98 : Code := Tryz.f98.body.getD .skip
def h98 : HintY := (.seq .none (.seq .none (.seq (.seq .none (.block (.range (.seq .none .none) (.block (.seq (.seq .none (.cond .none .none)) .none))))) (.seq .none .none))))
set_option maxRecDepth 100000 in
theorem c4G (x0 x1 : Value) (w : World) (R : Value → World → Prop) : F98 x0 x1 w R = callY Tryz.prog [.cell 4 28] c98 h98 [x0, x1] w R := by kernel_rfl
theorem c4H {x0 x1 : Value} {w : World} {R : Value → World → Prop} (h : F98 x0 x1 w R) : Cv Tryz.prog 98 #[x0, x1] w R :=
 a9N (args := [x0, x1]) (c := c98) (h := h98) Tryz.func98 (by kernel_rfl) (Nat.le_of_ble_eq_true (by kernel_rfl)) (by kernel_rfl) (by kernel_rfl) (by kernel_rfl) ((c4G x0 x1 w R).mp h)
def b8Z (x0 : Value) (w : World) (R : Value → World → Prop) : Prop :=
 opK Tryz.prog (xV (Instr.box 9 x0)) w fun c7I w_2 =>
 opK Tryz.prog (xV (Instr.makeFunc (.func 149) #[] #[c7I])) w_2 fun c7J w_4 =>
 R c7J w_4
noncomputable def c4I : Code := Tryz.f130.body.getD .skip
def c4J : Hint := (.seq .none (.seq .none .none))
set_option maxRecDepth 100000 in
theorem c1w (x0 : Value) (w : World) (R : Value → World → Prop) : b8Z x0 w R = callX Tryz.prog [.tmp 2] c4I c4J [x0] w R := by kernel_rfl
theorem c1x {x0 : Value} {w : World} {R : Value → World → Prop} (h : b8Z x0 w R) : Cv Tryz.prog 130 #[x0] w R :=
 a4n (args := [x0]) (c := c4I) (h := c4J) Tryz.func130 (by kernel_rfl) (Nat.le_of_ble_eq_true (by kernel_rfl)) (by kernel_rfl) (by kernel_rfl) (by kernel_rfl) ((c1w x0 w R).mp h)
def b5O (x0 x3 x8 : Value) (w : World) (next1 : List Value → World → Prop) (R : Value → World → Prop) : Prop :=
 opK Tryz.prog (xV (Instr.next x8 true 0)) w fun b6P b0d =>
 opK Tryz.prog (xV (Instr.extract b6P 0)) b0d fun c4K c4L =>
 xcond c4K
 (opK Tryz.prog (xV (Instr.extract b6P 1)) c4L fun c4M b8W =>
 opK Tryz.prog (xV (Instr.extract b6P 2)) b8W fun c4N c7K =>
 opK Tryz.prog (xV (Instr.loadAt 28 x3)) c7K fun c4O b8T =>
 opK Tryz.prog (xCall (Value.func (.func 150) #[] #[]) [c4O, c4N]) b8T fun b4j b8U =>
 opK Tryz.prog (xU (Instr.storeAt 28 x3 b4j)) b8U fun _z_28 b8V =>
 opK Tryz.prog (xV (Instr.loadAt 28 x3)) b8V fun c4P b8Y =>
 opY Tryz.prog (xCall x0 [c4M, c4P]) b8Y fun c4Q c7L =>
 opK Tryz.prog (xV (Op.unary .not c4Q)) c7L fun c4R b6N =>
 xcond c4R
 (R (Value.tuple #[]) b6N)
 ((([] : List Nat) = [] ∧ next1 [] b6N)))
 (R (Value.tuple #[]) c4L)
def b9a (x0 x1 : Value) (w : World) (R : Value → World → Prop) : Prop :=
 opK Tryz.prog (xCall (Value.func (.func 129) #[] #[]) []) w fun c7M w_3 =>
 opK Tryz.prog (xV (Instr.alloc 28 true (.tuple #[]))) w_3 fun c4S w_5 =>
 opK Tryz.prog (xU (Instr.storeAt 28 c4S c7M)) w_5 fun _z_6 w_7 =>
 opK Tryz.prog (xV (Instr.loadAt 9 x1)) w_7 fun c7N b4h =>
 opK Tryz.prog (xV (Instr.range 9 c7N)) b4h fun c5J b4i =>
 xloop [] [] b4i fun _ b6O next1 =>
 b5O x0 c4S c5J b6O next1 R
noncomputable def c4T : Code := Tryz.f149.body.getD .skip
def c4U : HintY := (.seq .none (.seq .none (.block (.loop [] (.seq .none (.seq (.cond .none .none) (.block (.seq .none (.seq .none (.seq .none (.cond .none .none)))))))))))
set_option maxRecDepth 100000 in
theorem c1y (x0 x1 : Value) (w : World) (R : Value → World → Prop) : b9a x0 x1 w R = callY Tryz.prog [] c4T c4U [x0, x1] w R := by kernel_rfl
theorem c1z {x0 x1 : Value} {w : World} {R : Value → World → Prop} (h : b9a x0 x1 w R) : Cv Tryz.prog 149 #[x0, x1] w R :=
 a9N (args := [x0, x1]) (c := c4T) (h := c4U) Tryz.func149 (by kernel_rfl) (Nat.le_of_ble_eq_true (by kernel_rfl)) (by kernel_rfl) (by kernel_rfl) (by kernel_rfl) ((c1y x0 x1 w R).mp h)
end Go.Proofs.YthklmeihgmcljaaGreatDoor.Od
namespace Go.Proofs.YthklmeihgmcljaaGreatDoor.Od
open Go.RowKit
set_option maxRecDepth 100000
theorem b0O {args : List Value} {w : World} {K : Value → World → Prop} (h : Cv Tryz.prog 129 args.toArray w K) : opK Tryz.prog (xCall (.func (.func 129) #[] #[]) args) w K := a2e (fun args w => Tryz.call129 args w) (by simpa using h)
theorem b6Q {args : List Value} {w : World} {K : Value → World → Prop} (h : Cv Tryz.prog 130 args.toArray w K) : opK Tryz.prog (xCall (.func (.func 130) #[] #[]) args) w K := a2e (fun args w => Tryz.call130 args w) (by simpa using h)
theorem a2J {g o : Nat} {w : World} {K : Value → World → Prop} (h : ldH (w.heap[g]?) o 2 fun l => K (.agg l.toArray) w) : opK Tryz.prog (xV (Instr.loadAt 28 (.pointer (some ⟨g, o, none⟩)))) w K := b7S Tryz.isAgg28 Tryz.sizeOf28 h
theorem b9b {g o : Nat} {w : World} {K : Value → World → Prop} (h : ldH (w.heap[g]?) o 1 fun l => K (nth l 0) w) : opK Tryz.prog (xV (Instr.loadAt 9 (.pointer (some ⟨g, o, none⟩)))) w K := b2s Tryz.isAgg9 h
theorem b8e (s : ByteArray) {w : World} {K : Value → World → Prop} : opK Tryz.prog (xV (Instr.range 9 (.string s))) w K = K (.pointer (some ⟨w.heap.size, 0, none⟩)) (w.alloc (.stringIter s 0)) := b2Q Tryz.underlying9 s
theorem b6R {args : List Value} {w : World} {K : Value → World → Prop} (h : Cv Tryz.prog 150 args.toArray w K) : opK Tryz.prog (xCall (.func (.func 150) #[] #[]) args) w K := a2e (fun args w => Tryz.call150 args w) (by simpa using h)
end Go.Proofs.YthklmeihgmcljaaGreatDoor.Od
