/- The second reading of some of the program's functions, printed by gen.py off the code; each is held against the code by the kernel. -/
import Derived.Test.YthklmeihgmcljaaGreatDoorProg
import Derived.KernelRfl
import Derived.Test.YthklmeihgmcljaaGreatDoorzCOEY
namespace Go.Proofs.YthklmeihgmcljaaGreatDoor.Od
open Go.RowKit
set_option maxRecDepth 100000
def b4a (w : World) (R : Value → World → Prop) : Prop :=
 opK Tryz.prog (xV (Instr.alloc 28 true (.tuple #[]))) w fun c4A w_2 =>
 opK Tryz.prog (xV (Instr.build 28 #[(0, (Value.int .i64 1)), (1, (Value.int .i64 1))])) w_2 fun c7h w_4 =>
 opK Tryz.prog (xU (Instr.storeAt 28 c4A c7h)) w_4 fun _z_5 w_6 =>
 xcell Tryz.prog 28 c4A w_6 fun r_7 =>
 R r_7 w_6
noncomputable def c4B : Code := Tryz.f129.body.getD .skip
def b6C : Hint := (.seq .none (.seq .none .none))
set_option maxRecDepth 100000 in
theorem c1J (w : World) (R : Value → World → Prop) : b4a  w R = callX Tryz.prog [.cell 0 28] c4B b6C [] w R := by kernel_rfl
theorem b5z {w : World} {R : Value → World → Prop} (h : b4a  w R) : Cv Tryz.prog 129 #[] w R :=
 a4o (args := []) (c := c4B) (h := b6C) Tryz.func129 (by kernel_rfl) (Nat.le_of_ble_eq_true (by kernel_rfl)) (by kernel_rfl) (by kernel_rfl) (by kernel_rfl) ((c1J  w R).mp h)
def b4c (x0 x1 : Value) (w : World) (R : Value → World → Prop) : Prop :=
 opK Tryz.prog (xV (Instr.box 28 x0)) w fun b9d w_2 =>
 opK Tryz.prog (xV (Instr.alloc 28 true (.tuple #[]))) w_2 fun b6P w_4 =>
 opK Tryz.prog (xBin .eql 21 (.tmp 5) (.const (Value.int .i32 10)) x1 (Value.int .i32 10)) w_4 fun c7i w_6 =>
 xcond c7i
 (opK Tryz.prog (xV (Instr.fieldAt 28 b9d 0)) w_6 fun c7j w_8 =>
 opK Tryz.prog (xV (Instr.loadAt 3 c7j)) w_8 fun c7k b4p =>
 opK Tryz.prog (xBin .add 3 (.tmp 8) (.const (Value.int .i64 1)) c7k (Value.int .i64 1)) b4p fun c5N b4q =>
 opK Tryz.prog (xV (Instr.build 28 #[(0, c5N), (1, (Value.int .i64 1))])) b4q fun c4C c7l =>
 opK Tryz.prog (xU (Instr.storeAt 28 b6P c4C)) c7l fun _z_15 c4D =>
 xcell Tryz.prog 28 b6P c4D fun c7m =>
 R c7m c4D)
 (opK Tryz.prog (xV (Instr.fieldAt 28 b9d 0)) w_6 fun c4E c7n =>
 opK Tryz.prog (xV (Instr.loadAt 3 c4E)) c7n fun c4F b6Q =>
 opK Tryz.prog (xV (Instr.fieldAt 28 b9d 1)) b6Q fun c4G c7o =>
 opK Tryz.prog (xV (Instr.loadAt 3 c4G)) c7o fun c4H b9e =>
 opK Tryz.prog (xBin .add 3 (.tmp 14) (.const (Value.int .i64 1)) c4H (Value.int .i64 1)) b9e fun b4r b9f =>
 opK Tryz.prog (xV (Instr.build 28 #[(0, c4F), (1, b4r)])) b9f fun c4I b9g =>
 opK Tryz.prog (xU (Instr.storeAt 28 b6P c4I)) b9g fun _z_30 c4J =>
 xcell Tryz.prog 28 b6P c4J fun c7p =>
 R c7p c4J)
noncomputable def c4K : Code := Tryz.f150.body.getD .skip
def b6D : Hint := (.seq .none (.seq (.seq .none (.cond (.seq .none .none) .none)) (.seq .none .none)))
set_option maxRecDepth 100000 in
theorem c1K (x0 x1 : Value) (w : World) (R : Value → World → Prop) : b4c x0 x1 w R = callX Tryz.prog [.cell 4 28] c4K b6D [x0, x1] w R := by kernel_rfl
theorem b5C {x0 x1 : Value} {w : World} {R : Value → World → Prop} (h : b4c x0 x1 w R) : Cv Tryz.prog 150 #[x0, x1] w R :=
 a4o (args := [x0, x1]) (c := c4K) (h := b6D) Tryz.func150 (by kernel_rfl) (Nat.le_of_ble_eq_true (by kernel_rfl)) (by kernel_rfl) (by kernel_rfl) (by kernel_rfl) ((c1K x0 x1 w R).mp h)
end Go.Proofs.YthklmeihgmcljaaGreatDoor.Od
namespace Go.Proofs.YthklmeihgmcljaaGreatDoor.Od
open Go.RowKit
set_option maxRecDepth 100000
theorem a5j {w : World} {K : Value → World → Prop} : opK Tryz.prog (xV (Instr.alloc 28 true (.tuple #[]))) w K = K (.pointer (some ⟨w.heap.size, 0, none⟩)) (w.alloc (.cells #[(Value.int .i64 0), (Value.int .i64 0)] 28)) := b8a Tryz.zeroValue28
theorem a5F (x0 : Int) (x1 : Int) {w : World} {K : Value → World → Prop} : opK Tryz.prog (xV (Instr.build 28 #[(0, (.int .i64 x0)), (1, (.int .i64 x1))])) w K = K (.agg #[(.int .i64 x0), (.int .i64 x1)]) w := a1d (by kernel_rfl)
theorem a0v {g o : Nat} {v : Value} {w : World} {K : Value → World → Prop} (hn : v.cells.size = 2) (h : stH (w.heap[g]?) o v.cells.toList fun cs => K undef (w.setRow g cs)) : opK Tryz.prog (xU (Instr.storeAt 28 (.pointer (some ⟨g, o, none⟩)) v)) w K := b7Z Tryz.sizeOf28 hn h
theorem b2z {g o : Nat} {w : World} {K : Value → World → Prop} : opK Tryz.prog (xV (Instr.fieldAt 28 (.pointer (some ⟨g, o, none⟩)) 0)) w K = K (.pointer (some ⟨g, o, none⟩)) w := a1d (by kernel_rfl)
theorem a5G {g o : Nat} {w : World} {K : Value → World → Prop} (h : ldH (w.heap[g]?) o 1 fun l => K (nth l 0) w) : opK Tryz.prog (xV (Instr.loadAt 3 (.pointer (some ⟨g, o, none⟩)))) w K := b2y Tryz.isAgg3 h
theorem b8j {g o : Nat} {w : World} {K : Value → World → Prop} : opK Tryz.prog (xV (Instr.fieldAt 28 (.pointer (some ⟨g, o, none⟩)) 1)) w K = K (.pointer (some ⟨g, o + 1, none⟩)) w := a1d (by kernel_rfl)
theorem a7p {g o : Nat} {w : World} {K : Value → Prop} (h : ldH (w.heap[g]?) o 2 fun l => K (.agg l.toArray)) : xcell Tryz.prog 28 (.pointer (some ⟨g, o, none⟩)) w K := xcellA Tryz.isAgg28 Tryz.sizeOf28 h
end Go.Proofs.YthklmeihgmcljaaGreatDoor.Od
namespace Go.Proofs.YthklmeihgmcljaaGreatDoor.Od
open Go.RowKit
set_option maxRecDepth 100000
def b0Q (x4 x5 : Value) (ds : List Nat) (w : World) (R : Value → World → Prop) : Prop :=
 opK Tryz.prog (xV (Instr.loadAt 28 x5)) w fun c4L c7q =>
 opK Tryz.prog (xU (Instr.storeAt 28 x4 c4L)) c7q fun _z_19 b9h =>
 closeM ds b9h fun b6Q => xcell Tryz.prog 28 x4 b6Q fun c7r =>
 R c7r b6Q
def F98 (x0 x1 : Value) (w : World) (R : Value → World → Prop) : Prop :=
 opK Tryz.prog (xV (Instr.box 3 x1)) w fun c7s w_3 =>
 opK Tryz.prog (xV (Instr.alloc 28 true (.tuple #[]))) w_3 fun b9i w_5 =>
 opK Tryz.prog (xCall (Value.func (.func 129) #[] #[]) []) w_5 fun c7t w_8 =>
 opK Tryz.prog (xV (Instr.alloc 28 true (.tuple #[]))) w_8 fun b6R b4p =>
 opK Tryz.prog (xU (Instr.storeAt 28 b6R c7t)) b4p fun _z_11 b4q =>
 opK Tryz.prog (xCall (Value.func (.func 130) #[] #[]) [x0]) b4q fun c4M b0f =>
 xrange Tryz.prog c4M 2 b0f (fun c4N c0h c7u c4O =>
 opK Tryz.prog (xV (Instr.alloc 28 true (.tuple #[]))) c7u fun c0i c7v =>
 opK Tryz.prog (xU (Instr.storeAt 28 c0i (nth c0h 1))) c7v fun _z_31 b9j =>
 beginY (b0f.heap.size + 1) c4N b9j fun c7w =>
 opK Tryz.prog (xV (Instr.loadAt 3 c7s)) c7w fun c4P b6S =>
 opK Tryz.prog (xBin .geq 3 (.tmp 13) (.tmp 14) (nth c0h 0) c4P) b6S fun c4Q b6T =>
 xcond c4Q
 (c4O (.exit 0) b6T)
 (opK Tryz.prog (xV (Instr.loadAt 28 c0i)) b6T fun c4R c7x =>
 opK Tryz.prog (xU (Instr.storeAt 28 b6R c4R)) c7x fun _z_42 c7y =>
 c4O .normal c7y))
 (fun c7z => b0Q b9i b6R (b0f.heap.size :: []) c7z R) (fun c7A => closeM (b0f.heap.size :: []) c7A fun c4S => xcell Tryz.prog 28 b9i c4S fun c7B =>
 R c7B c4S) (fun c5O c7C => (bif Nat.beq c5O 0 then b0Q b9i b6R (b0f.heap.size :: []) c7C R else False))
noncomputable def c98 : Code := Tryz.f98.body.getD .skip
def h98 : HintY := (.seq .none (.seq .none (.seq (.seq .none (.block (.range (.seq .none .none) (.block (.seq (.seq .none (.cond .none .none)) .none))))) (.seq .none .none))))
set_option maxRecDepth 100000 in
theorem c4T (x0 x1 : Value) (w : World) (R : Value → World → Prop) : F98 x0 x1 w R = callY Tryz.prog [.cell 4 28] c98 h98 [x0, x1] w R := by kernel_rfl
theorem c4U {x0 x1 : Value} {w : World} {R : Value → World → Prop} (h : F98 x0 x1 w R) : Cv Tryz.prog 98 #[x0, x1] w R :=
 a9Q (args := [x0, x1]) (c := c98) (h := h98) Tryz.func98 (by kernel_rfl) (Nat.le_of_ble_eq_true (by kernel_rfl)) (by kernel_rfl) (by kernel_rfl) (by kernel_rfl) ((c4T x0 x1 w R).mp h)
def b9k (x0 : Value) (w : World) (R : Value → World → Prop) : Prop :=
 opK Tryz.prog (xV (Instr.box 9 x0)) w fun c7D w_2 =>
 opK Tryz.prog (xV (Instr.makeFunc (.func 149) #[] #[c7D])) w_2 fun c7E w_4 =>
 R c7E w_4
noncomputable def c4V : Code := Tryz.f130.body.getD .skip
def c4W : Hint := (.seq .none (.seq .none .none))
set_option maxRecDepth 100000 in
theorem c1L (x0 : Value) (w : World) (R : Value → World → Prop) : b9k x0 w R = callX Tryz.prog [.tmp 2] c4V c4W [x0] w R := by kernel_rfl
theorem c1M {x0 : Value} {w : World} {R : Value → World → Prop} (h : b9k x0 w R) : Cv Tryz.prog 130 #[x0] w R :=
 a4o (args := [x0]) (c := c4V) (h := c4W) Tryz.func130 (by kernel_rfl) (Nat.le_of_ble_eq_true (by kernel_rfl)) (by kernel_rfl) (by kernel_rfl) (by kernel_rfl) ((c1L x0 w R).mp h)
def b5V (x0 x3 x8 : Value) (w : World) (next1 : List Value → World → Prop) (R : Value → World → Prop) : Prop :=
 opK Tryz.prog (xV (Instr.next x8 true 0)) w fun b6U b0f =>
 opK Tryz.prog (xV (Instr.extract b6U 0)) b0f fun c4X c4Y =>
 xcond c4X
 (opK Tryz.prog (xV (Instr.extract b6U 1)) c4Y fun c4Z b9h =>
 opK Tryz.prog (xV (Instr.extract b6U 2)) b9h fun c5a c7F =>
 opK Tryz.prog (xV (Instr.loadAt 28 x3)) c7F fun c5b b9e =>
 opK Tryz.prog (xCall (Value.func (.func 150) #[] #[]) [c5b, c5a]) b9e fun b4r b9f =>
 opK Tryz.prog (xU (Instr.storeAt 28 x3 b4r)) b9f fun _z_28 b9g =>
 opK Tryz.prog (xV (Instr.loadAt 28 x3)) b9g fun c5c b9j =>
 opY Tryz.prog (xCall x0 [c4Z, c5c]) b9j fun c5d c7G =>
 opK Tryz.prog (xV (Op.unary .not c5d)) c7G fun c5e b6S =>
 xcond c5e
 (R (Value.tuple #[]) b6S)
 ((([] : List Nat) = [] ∧ next1 [] b6S)))
 (R (Value.tuple #[]) c4Y)
def b9l (x0 x1 : Value) (w : World) (R : Value → World → Prop) : Prop :=
 opK Tryz.prog (xCall (Value.func (.func 129) #[] #[]) []) w fun c7H w_3 =>
 opK Tryz.prog (xV (Instr.alloc 28 true (.tuple #[]))) w_3 fun c5f w_5 =>
 opK Tryz.prog (xU (Instr.storeAt 28 c5f c7H)) w_5 fun _z_6 w_7 =>
 opK Tryz.prog (xV (Instr.loadAt 9 x1)) w_7 fun c7I b4p =>
 opK Tryz.prog (xV (Instr.range 9 c7I)) b4p fun c5P b4q =>
 xloop [] [] b4q fun _ b6T next1 =>
 b5V x0 c5f c5P b6T next1 R
noncomputable def c5g : Code := Tryz.f149.body.getD .skip
def c5h : HintY := (.seq .none (.seq .none (.block (.loop [] (.seq .none (.seq (.cond .none .none) (.block (.seq .none (.seq .none (.seq .none (.cond .none .none)))))))))))
set_option maxRecDepth 100000 in
theorem c1N (x0 x1 : Value) (w : World) (R : Value → World → Prop) : b9l x0 x1 w R = callY Tryz.prog [] c5g c5h [x0, x1] w R := by kernel_rfl
theorem c1O {x0 x1 : Value} {w : World} {R : Value → World → Prop} (h : b9l x0 x1 w R) : Cv Tryz.prog 149 #[x0, x1] w R :=
 a9Q (args := [x0, x1]) (c := c5g) (h := c5h) Tryz.func149 (by kernel_rfl) (Nat.le_of_ble_eq_true (by kernel_rfl)) (by kernel_rfl) (by kernel_rfl) (by kernel_rfl) ((c1N x0 x1 w R).mp h)
end Go.Proofs.YthklmeihgmcljaaGreatDoor.Od
namespace Go.Proofs.YthklmeihgmcljaaGreatDoor.Od
open Go.RowKit
set_option maxRecDepth 100000
theorem b0R {args : List Value} {w : World} {K : Value → World → Prop} (h : Cv Tryz.prog 129 args.toArray w K) : opK Tryz.prog (xCall (.func (.func 129) #[] #[]) args) w K := a0y (fun args w => Tryz.call129 args w) (by simpa using h)
theorem b6V {args : List Value} {w : World} {K : Value → World → Prop} (h : Cv Tryz.prog 130 args.toArray w K) : opK Tryz.prog (xCall (.func (.func 130) #[] #[]) args) w K := a0y (fun args w => Tryz.call130 args w) (by simpa using h)
theorem a2H {g o : Nat} {w : World} {K : Value → World → Prop} (h : ldH (w.heap[g]?) o 2 fun l => K (.agg l.toArray) w) : opK Tryz.prog (xV (Instr.loadAt 28 (.pointer (some ⟨g, o, none⟩)))) w K := b7Y Tryz.isAgg28 Tryz.sizeOf28 h
theorem b9m {g o : Nat} {w : World} {K : Value → World → Prop} (h : ldH (w.heap[g]?) o 1 fun l => K (nth l 0) w) : opK Tryz.prog (xV (Instr.loadAt 9 (.pointer (some ⟨g, o, none⟩)))) w K := b2y Tryz.isAgg9 h
theorem b8k (s : ByteArray) {w : World} {K : Value → World → Prop} : opK Tryz.prog (xV (Instr.range 9 (.string s))) w K = K (.pointer (some ⟨w.heap.size, 0, none⟩)) (w.alloc (.stringIter s 0)) := b2Z Tryz.underlying9 s
theorem b6W {args : List Value} {w : World} {K : Value → World → Prop} (h : Cv Tryz.prog 150 args.toArray w K) : opK Tryz.prog (xCall (.func (.func 150) #[] #[]) args) w K := a0y (fun args w => Tryz.call150 args w) (by simpa using h)
end Go.Proofs.YthklmeihgmcljaaGreatDoor.Od
