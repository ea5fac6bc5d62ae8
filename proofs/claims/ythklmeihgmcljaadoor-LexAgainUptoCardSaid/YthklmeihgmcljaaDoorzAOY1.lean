/- Single operations at this program's types, printed by gen.py. -/
import Derived.Test.YthklmeihgmcljaaDoorProg
import Derived.KernelRfl
import Derived.Test.YthklmeihgmcljaaDoorzAOE2
namespace Go.Proofs.YthklmeihgmcljaaDoor.Od
open Go.RowKit
set_option maxRecDepth 100000
theorem M7 {w : World} {K : Value → World → Prop} : opK Tryd.prog (xV (Instr.alloc 25 true (.tuple #[]))) w K = K (.pointer (some ⟨w.heap.size, 0, none⟩)) (w.alloc (.cells #[(Value.int .i64 0), (Value.int .i64 0)] 25)) := a3w Tryd.zeroValue25
theorem O0 (x0 : Int) (x1 : Int) {w : World} {K : Value → World → Prop} : opK Tryd.prog (xV (Instr.build 25 #[(0, (.int .i64 x0)), (1, (.int .i64 x1))])) w K = K (.agg #[(.int .i64 x0), (.int .i64 x1)]) w := C0 (by kernel_rfl)
theorem B3 {g o : Nat} {v : Value} {w : World} {K : Value → World → Prop} (hn : v.cells.size = 2) (h : stH (w.heap[g]?) o v.cells.toList fun cs => K undef (w.setRow g cs)) : opK Tryd.prog (xU (Instr.storeAt 25 (.pointer (some ⟨g, o, none⟩)) v)) w K := a3v Tryd.sizeOf25 hn h
theorem a0G {g o : Nat} {w : World} {K : Value → World → Prop} : opK Tryd.prog (xV (Instr.fieldAt 25 (.pointer (some ⟨g, o, none⟩)) 0)) w K = K (.pointer (some ⟨g, o, none⟩)) w := C0 (by kernel_rfl)
theorem O1 {g o : Nat} {w : World} {K : Value → World → Prop} (h : ldH (w.heap[g]?) o 1 fun l => K (nth l 0) w) : opK Tryd.prog (xV (Instr.loadAt 3 (.pointer (some ⟨g, o, none⟩)))) w K := a0F Tryd.isAgg3 h
theorem a3F {g o : Nat} {w : World} {K : Value → World → Prop} : opK Tryd.prog (xV (Instr.fieldAt 25 (.pointer (some ⟨g, o, none⟩)) 1)) w K = K (.pointer (some ⟨g, o + 1, none⟩)) w := C0 (by kernel_rfl)
theorem S2 {g o : Nat} {w : World} {K : Value → Prop} (h : ldH (w.heap[g]?) o 2 fun l => K (.agg l.toArray)) : xcell Tryd.prog 25 (.pointer (some ⟨g, o, none⟩)) w K := xcellA Tryd.isAgg25 Tryd.sizeOf25 h
end Go.Proofs.YthklmeihgmcljaaDoor.Od
