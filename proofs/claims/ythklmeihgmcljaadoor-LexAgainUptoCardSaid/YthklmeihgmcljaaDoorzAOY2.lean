/- Single operations at this program's types, printed by gen.py. -/
import Derived.Test.YthklmeihgmcljaaDoorProg
import Derived.KernelRfl
import Derived.Test.YthklmeihgmcljaaDoorzAOE2
namespace Go.Proofs.YthklmeihgmcljaaDoor.Od
open Go.RowKit
set_option maxRecDepth 100000
theorem a0H {args : List Value} {w : World} {K : Value → World → Prop} (h : Cv Tryd.prog 34 args.toArray w K) : opK Tryd.prog (xCall (.func (.func 34) #[] #[]) args) w K := O7 (fun args w => Tryd.call34 args w) (by simpa using h)
theorem a3G {args : List Value} {w : World} {K : Value → World → Prop} (h : Cv Tryd.prog 35 args.toArray w K) : opK Tryd.prog (xCall (.func (.func 35) #[] #[]) args) w K := O7 (fun args w => Tryd.call35 args w) (by simpa using h)
theorem G3 {g o : Nat} {w : World} {K : Value → World → Prop} (h : ldH (w.heap[g]?) o 2 fun l => K (.agg l.toArray) w) : opK Tryd.prog (xV (Instr.loadAt 25 (.pointer (some ⟨g, o, none⟩)))) w K := a3u Tryd.isAgg25 Tryd.sizeOf25 h
theorem a4l {g o : Nat} {w : World} {K : Value → World → Prop} (h : ldH (w.heap[g]?) o 1 fun l => K (nth l 0) w) : opK Tryd.prog (xV (Instr.loadAt 9 (.pointer (some ⟨g, o, none⟩)))) w K := a0F Tryd.isAgg9 h
theorem a3H (s : ByteArray) {w : World} {K : Value → World → Prop} : opK Tryd.prog (xV (Instr.range 9 (.string s))) w K = K (.pointer (some ⟨w.heap.size, 0, none⟩)) (w.alloc (.stringIter s 0)) := a0L Tryd.underlying9 s
theorem a3I {args : List Value} {w : World} {K : Value → World → Prop} (h : Cv Tryd.prog 55 args.toArray w K) : opK Tryd.prog (xCall (.func (.func 55) #[] #[]) args) w K := O7 (fun args w => Tryd.call55 args w) (by simpa using h)
end Go.Proofs.YthklmeihgmcljaaDoor.Od
