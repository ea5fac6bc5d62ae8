/- The second reading of some of the program's functions, printed by gen.py off the code; each is held against the code by the kernel. -/
import Derived.Test.YthklmeihgmcljaaGreatDoorProg
import Derived.KernelRfl
import Derived.Test.YthklmeihgmcljaaGreatDoorzTOEY
namespace Go.Proofs.YthklmeihgmcljaaGreatDoor.Od
open Go.RowKit
set_option maxRecDepth 100000
def b4Q (w : World) (R : Value → World → Prop) : Prop :=
 opK Tryz.prog (xV (Instr.alloc 28 true (.tuple #[]))) w fun c5N w_2 =>
 opK Tryz.prog (xV (Instr.build 28 #[(0, (Value.int .i64 1)), (1, (Value.int .i64 1))])) w_2 fun c8w w_4 =>
 opK Tryz.prog (xU (Instr.storeAt 28 c5N c8w)) w_4 fun _z_5 w_6 =>
 xcell Tryz.prog 28 c5N w_6 fun r_7 =>
 R r_7 w_6
noncomputable def c5O : Code := Tryz.f129.body.getD .skip
def b7y : Hint := (.seq .none (.seq .none .none))
set_option maxRecDepth 100000 in
theorem c2K (w : World) (R : Value → World → Prop) : b4Q  w R = callX Tryz.prog [.cell 0 28] c5O b7y [] w R := by kernel_rfl
theorem b6r {w : World} {R : Value → World → Prop} (h : b4Q  w R) : Cv Tryz.prog 129 #[] w R :=
 a5b (args := []) (c := c5O) (h := b7y) Tryz.func129 (by kernel_rfl) (Nat.le_of_ble_eq_true (by kernel_rfl)) (by kernel_rfl) (by kernel_rfl) (by kernel_rfl) ((c2K  w R).mp h)
def b4S (x0 x1 : Value) (w : World) (R : Value → World → Prop) : Prop :=
 opK Tryz.prog (xV (Instr.box 28 x0)) w fun c0c w_2 =>
 opK Tryz.prog (xV (Instr.alloc 28 true (.tuple #[]))) w_2 fun b7J w_4 =>
 opK Tryz.prog (xBin .eql 21 (.tmp 5) (.const (Value.int .i32 10)) x1 (Value.int .i32 10)) w_4 fun c8x w_6 =>
 xcond c8x
 (opK Tryz.prog (xV (Instr.fieldAt 28 c0c 0)) w_6 fun c8y w_8 =>
 opK Tryz.prog (xV (Instr.loadAt 3 c8y)) w_8 fun c8z b5e =>
 opK Tryz.prog (xBin .add 3 (.tmp 8) (.const (Value.int .i64 1)) c8z (Value.int .i64 1)) b5e fun c7g b5f =>
 opK Tryz.prog (xV (Instr.build 28 #[(0, c7g), (1, (Value.int .i64 1))])) b5f fun c5P c8A =>
 opK Tryz.prog (xU (Instr.storeAt 28 b7J c5P)) c8A fun _z_15 c5Q =>
 xcell Tryz.prog 28 b7J c5Q fun c8B =>
 R c8B c5Q)
 (opK Tryz.prog (xV (Instr.fieldAt 28 c0c 0)) w_6 fun c5R c8C =>
 opK Tryz.prog (xV (Instr.loadAt 3 c5R)) c8C fun c5S b7K =>
 opK Tryz.prog (xV (Instr.fieldAt 28 c0c 1)) b7K fun c5T c8D =>
 opK Tryz.prog (xV (Instr.loadAt 3 c5T)) c8D fun c5U c0d =>
 opK Tryz.prog (xBin .add 3 (.tmp 14) (.const (Value.int .i64 1)) c5U (Value.int .i64 1)) c0d fun b5g c0e =>
 opK Tryz.prog (xV (Instr.build 28 #[(0, c5S), (1, b5g)])) c0e fun c5V c0f =>
 opK Tryz.prog (xU (Instr.storeAt 28 b7J c5V)) c0f fun _z_30 c5W =>
 xcell Tryz.prog 28 b7J c5W fun c8E =>
 R c8E c5W)
noncomputable def c5X : Code := Tryz.f150.body.getD .skip
def b7z : Hint := (.seq .none (.seq (.seq .none (.cond (.seq .none .none) .none)) (.seq .none .none)))
set_option maxRecDepth 100000 in
theorem c2L (x0 x1 : Value) (w : World) (R : Value → World → Prop) : b4S x0 x1 w R = callX Tryz.prog [.cell 4 28] c5X b7z [x0, x1] w R := by kernel_rfl
theorem b6u {x0 x1 : Value} {w : World} {R : Value → World → Prop} (h : b4S x0 x1 w R) : Cv Tryz.prog 150 #[x0, x1] w R :=
 a5b (args := [x0, x1]) (c := c5X) (h := b7z) Tryz.func150 (by kernel_rfl) (Nat.le_of_ble_eq_true (by kernel_rfl)) (by kernel_rfl) (by kernel_rfl) (by kernel_rfl) ((c2L x0 x1 w R).mp h)
end Go.Proofs.YthklmeihgmcljaaGreatDoor.Od
namespace Go.Proofs.YthklmeihgmcljaaGreatDoor.Od
open Go.RowKit
set_option maxRecDepth 100000
theorem a5S {w : World} {K : Value → World → Prop} : opK Tryz.prog (xV (Instr.alloc 28 true (.tuple #[]))) w K = K (.pointer (some ⟨w.heap.size, 0, none⟩)) (w.alloc (.cells #[(Value.int .i64 0), (Value.int .i64 0)] 28)) := b8Z Tryz.zeroValue28
theorem a6m (x0 : Int) (x1 : Int) {w : World} {K : Value → World → Prop} : opK Tryz.prog (xV (Instr.build 28 #[(0, (.int .i64 x0)), (1, (.int .i64 x1))])) w K = K (.agg #[(.int .i64 x0), (.int .i64 x1)]) w := a1I (by kernel_rfl)
theorem a0V {g o : Nat} {v : Value} {w : World} {K : Value → World → Prop} (hn : v.cells.size = 2) (h : stH (w.heap[g]?) o v.cells.toList fun cs => K undef (w.setRow g cs)) : opK Tryz.prog (xU (Instr.storeAt 28 (.pointer (some ⟨g, o, none⟩)) v)) w K := b8Y Tryz.sizeOf28 hn h
theorem b3h {g o : Nat} {w : World} {K : Value → World → Prop} : opK Tryz.prog (xV (Instr.fieldAt 28 (.pointer (some ⟨g, o, none⟩)) 0)) w K = K (.pointer (some ⟨g, o, none⟩)) w := a1I (by kernel_rfl)
theorem a6n {g o : Nat} {w : World} {K : Value → World → Prop} (h : ldH (w.heap[g]?) o 1 fun l => K (nth l 0) w) : opK Tryz.prog (xV (Instr.loadAt 3 (.pointer (some ⟨g, o, none⟩)))) w K := b3g Tryz.isAgg3 h
theorem b9i {g o : Nat} {w : World} {K : Value → World → Prop} : opK Tryz.prog (xV (Instr.fieldAt 28 (.pointer (some ⟨g, o, none⟩)) 1)) w K = K (.pointer (some ⟨g, o + 1, none⟩)) w := a1I (by kernel_rfl)
theorem a7V {g o : Nat} {w : World} {K : Value → Prop} (h : ldH (w.heap[g]?) o 2 fun l => K (.agg l.toArray)) : xcell Tryz.prog 28 (.pointer (some ⟨g, o, none⟩)) w K := xcellA Tryz.isAgg28 Tryz.sizeOf28 h
end Go.Proofs.YthklmeihgmcljaaGreatDoor.Od
namespace Go.Proofs.YthklmeihgmcljaaGreatDoor.Od
open Go.RowKit
set_option maxRecDepth 100000
def b1E (x4 x5 : Value) (ds : List Nat) (w : World) (R : Value → World → Prop) : Prop :=
 opK Tryz.prog (xV (Instr.loadAt 28 x5)) w fun c5Y c8F =>
 opK Tryz.prog (xU (Instr.storeAt 28 x4 c5Y)) c8F fun _z_19 c0g =>
 closeM ds c0g fun b7K => xcell Tryz.prog 28 x4 b7K fun c8G =>
 R c8G b7K
def F98 (x0 x1 : Value) (w : World) (R : Value → World → Prop) : Prop :=
 opK Tryz.prog (xV (Instr.box 3 x1)) w fun c8H w_3 =>
 opK Tryz.prog (xV (Instr.alloc 28 true (.tuple #[]))) w_3 fun c0h w_5 =>
 opK Tryz.prog (xCall (Value.func (.func 129) #[] #[]) []) w_5 fun c8I w_8 =>
 opK Tryz.prog (xV (Instr.alloc 28 true (.tuple #[]))) w_8 fun b7L b5e =>
 opK Tryz.prog (xU (Instr.storeAt 28 b7L c8I)) b5e fun _z_11 b5f =>
 opK Tryz.prog (xCall (Value.func (.func 130) #[] #[]) [x0]) b5f fun c5Z b1b =>
 xrange Tryz.prog c5Z 2 b1b (fun c6a c1k c8J c6b =>
 opK Tryz.prog (xV (Instr.alloc 28 true (.tuple #[]))) c8J fun c1l c8K =>
 opK Tryz.prog (xU (Instr.storeAt 28 c1l (nth c1k 1))) c8K fun _z_31 c0i =>
 beginY (b1b.heap.size + 1) c6a c0i fun c8L =>
 opK Tryz.prog (xV (Instr.loadAt 3 c8H)) c8L fun c6c b7M =>
 opK Tryz.prog (xBin .geq 3 (.tmp 13) (.tmp 14) (nth c1k 0) c6c) b7M fun c6d b7N =>
 xcond c6d
 (c6b (.exit 0) b7N)
 (opK Tryz.prog (xV (Instr.loadAt 28 c1l)) b7N fun c6e c8M =>
 opK Tryz.prog (xU (Instr.storeAt 28 b7L c6e)) c8M fun _z_42 c8N =>
 c6b .normal c8N))
 (fun c8O => b1E c0h b7L (b1b.heap.size :: []) c8O R) (fun c8P => closeM (b1b.heap.size :: []) c8P fun c6f => xcell Tryz.prog 28 c0h c6f fun c8Q =>
 R c8Q c6f) (fun c7h c8R => (bif Nat.beq c7h 0 then b1E c0h b7L (b1b.heap.size :: []) c8R R else False))
noncomputable def c98 : Code := Tryz.f98.body.getD .skip
def h98 : HintY := (.seq .none (.seq .none (.seq (.seq .none (.block (.range (.seq .none .none) (.block (.seq (.seq .none (.cond .none .none)) .none))))) (.seq .none .none))))
set_option maxRecDepth 100000 in
theorem c6g (x0 x1 : Value) (w : World) (R : Value → World → Prop) : F98 x0 x1 w R = callY Tryz.prog [.cell 4 28] c98 h98 [x0, x1] w R := by kernel_rfl
theorem c6h {x0 x1 : Value} {w : World} {R : Value → World → Prop} (h : F98 x0 x1 w R) : Cv Tryz.prog 98 #[x0, x1] w R :=
 b0J (args := [x0, x1]) (c := c98) (h := h98) Tryz.func98 (by kernel_rfl) (Nat.le_of_ble_eq_true (by kernel_rfl)) (by kernel_rfl) (by kernel_rfl) (by kernel_rfl) ((c6g x0 x1 w R).mp h)
def c0j (x0 : Value) (w : World) (R : Value → World → Prop) : Prop :=
 opK Tryz.prog (xV (Instr.box 9 x0)) w fun c8S w_2 =>
 opK Tryz.prog (xV (Instr.makeFunc (.func 149) #[] #[c8S])) w_2 fun c8T w_4 =>
 R c8T w_4
noncomputable def c6i : Code := Tryz.f130.body.getD .skip
def c6j : Hint := (.seq .none (.seq .none .none))
set_option maxRecDepth 100000 in
theorem c2M (x0 : Value) (w : World) (R : Value → World → Prop) : c0j x0 w R = callX Tryz.prog [.tmp 2] c6i c6j [x0] w R := by kernel_rfl
theorem c2N {x0 : Value} {w : World} {R : Value → World → Prop} (h : c0j x0 w R) : Cv Tryz.prog 130 #[x0] w R :=
 a5b (args := [x0]) (c := c6i) (h := c6j) Tryz.func130 (by kernel_rfl) (Nat.le_of_ble_eq_true (by kernel_rfl)) (by kernel_rfl) (by kernel_rfl) (by kernel_rfl) ((c2M x0 w R).mp h)
def b6P (x0 x3 x8 : Value) (w : World) (next1 : List Value → World → Prop) (R : Value → World → Prop) : Prop :=
 opK Tryz.prog (xV (Instr.next x8 true 0)) w fun b7O b1b =>
 opK Tryz.prog (xV (Instr.extract b7O 0)) b1b fun c6k c6l =>
 xcond c6k
 (opK Tryz.prog (xV (Instr.extract b7O 1)) c6l fun c6m c0g =>
 opK Tryz.prog (xV (Instr.extract b7O 2)) c0g fun c6n c8U =>
 opK Tryz.prog (xV (Instr.loadAt 28 x3)) c8U fun c6o c0d =>
 opK Tryz.prog (xCall (Value.func (.func 150) #[] #[]) [c6o, c6n]) c0d fun b5g c0e =>
 opK Tryz.prog (xU (Instr.storeAt 28 x3 b5g)) c0e fun _z_28 c0f =>
 opK Tryz.prog (xV (Instr.loadAt 28 x3)) c0f fun c6p c0i =>
 opY Tryz.prog (xCall x0 [c6m, c6p]) c0i fun c6q c8V =>
 opK Tryz.prog (xV (Op.unary .not c6q)) c8V fun c6r b7M =>
 xcond c6r
 (R (Value.tuple #[]) b7M)
 ((([] : List Nat) = [] ∧ next1 [] b7M)))
 (R (Value.tuple #[]) c6l)
def c0k (x0 x1 : Value) (w : World) (R : Value → World → Prop) : Prop :=
 opK Tryz.prog (xCall (Value.func (.func 129) #[] #[]) []) w fun c8W w_3 =>
 opK Tryz.prog (xV (Instr.alloc 28 true (.tuple #[]))) w_3 fun c6s w_5 =>
 opK Tryz.prog (xU (Instr.storeAt 28 c6s c8W)) w_5 fun _z_6 w_7 =>
 opK Tryz.prog (xV (Instr.loadAt 9 x1)) w_7 fun c8X b5e =>
 opK Tryz.prog (xV (Instr.range 9 c8X)) b5e fun c7i b5f =>
 xloop [] [] b5f fun _ b7N next1 =>
 b6P x0 c6s c7i b7N next1 R
noncomputable def c6t : Code := Tryz.f149.body.getD .skip
def c6u : HintY := (.seq .none (.seq .none (.block (.loop [] (.seq .none (.seq (.cond .none .none) (.block (.seq .none (.seq .none (.seq .none (.cond .none .none)))))))))))
set_option maxRecDepth 100000 in
theorem c2O (x0 x1 : Value) (w : World) (R : Value → World → Prop) : c0k x0 x1 w R = callY Tryz.prog [] c6t c6u [x0, x1] w R := by kernel_rfl
theorem c2P {x0 x1 : Value} {w : World} {R : Value → World → Prop} (h : c0k x0 x1 w R) : Cv Tryz.prog 149 #[x0, x1] w R :=
 b0J (args := [x0, x1]) (c := c6t) (h := c6u) Tryz.func149 (by kernel_rfl) (Nat.le_of_ble_eq_true (by kernel_rfl)) (by kernel_rfl) (by kernel_rfl) (by kernel_rfl) ((c2O x0 x1 w R).mp h)
end Go.Proofs.YthklmeihgmcljaaGreatDoor.Od
namespace Go.Proofs.YthklmeihgmcljaaGreatDoor.Od
open Go.RowKit
set_option maxRecDepth 100000
theorem b1F {args : List Value} {w : World} {K : Value → World → Prop} (h : Cv Tryz.prog 129 args.toArray w K) : opK Tryz.prog (xCall (.func (.func 129) #[] #[]) args) w K := a2K (fun args w => Tryz.call129 args w) (by simpa using h)
theorem b7P {args : List Value} {w : World} {K : Value → World → Prop} (h : Cv Tryz.prog 130 args.toArray w K) : opK Tryz.prog (xCall (.func (.func 130) #[] #[]) args) w K := a2K (fun args w => Tryz.call130 args w) (by simpa using h)
theorem a3y {g o : Nat} {w : World} {K : Value → World → Prop} (h : ldH (w.heap[g]?) o 2 fun l => K (.agg l.toArray) w) : opK Tryz.prog (xV (Instr.loadAt 28 (.pointer (some ⟨g, o, none⟩)))) w K := b8X Tryz.isAgg28 Tryz.sizeOf28 h
theorem c0l {g o : Nat} {w : World} {K : Value → World → Prop} (h : ldH (w.heap[g]?) o 1 fun l => K (nth l 0) w) : opK Tryz.prog (xV (Instr.loadAt 9 (.pointer (some ⟨g, o, none⟩)))) w K := b3g Tryz.isAgg9 h
theorem b9j (s : ByteArray) {w : World} {K : Value → World → Prop} : opK Tryz.prog (xV (Instr.range 9 (.string s))) w K = K (.pointer (some ⟨w.heap.size, 0, none⟩)) (w.alloc (.stringIter s 0)) := b3K Tryz.underlying9 s
theorem b7Q {args : List Value} {w : World} {K : Value → World → Prop} (h : Cv Tryz.prog 150 args.toArray w K) : opK Tryz.prog (xCall (.func (.func 150) #[] #[]) args) w K := a2K (fun args w => Tryz.call150 args w) (by simpa using h)
end Go.Proofs.YthklmeihgmcljaaGreatDoor.Od
