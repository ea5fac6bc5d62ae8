/-
  Single operations at this program's types, printed by gen.py.
-/
import Derived.Test.YtpdeflgmldomeaaDoorProg
import Derived.Test.YtpdeflgmldomeaaDoorE2
import Derived.KernelRfl
namespace Go.Proofs.YtpdeflgmldomeaaDoor
open Go.RowKit

theorem o_clo_25 {args : List Value} {cap : Array Value} {w : World} {K : Value → World → Prop} (h : Cv Tryd.prog 25 (args.toArray ++ cap) w K) : opK Tryd.prog (xCall (.func (.func 25) #[] cap) args) w K := opK_calls (fun args w => Tryd.call25 args w) h
theorem o_call_20 {args : List Value} {w : World} {K : Value → World → Prop} (h : Cv Tryd.prog 20 args.toArray w K) : opK Tryd.prog (xCall (.func (.func 20) #[] #[]) args) w K := opK_calls (fun args w => Tryd.call20 args w) (by simpa using h)
theorem o_load_9 {g o : Nat} {w : World} {K : Value → World → Prop} (h : ldH (w.heap[g]?) o 1 fun l => K (nth l 0) w) : opK Tryd.prog (xV (Instr.loadAt 9 (.pointer (some ⟨g, o, none⟩)))) w K := opK_load1 Tryd.isAgg9 h
theorem o_call_23 {args : List Value} {w : World} {K : Value → World → Prop} (h : Cv Tryd.prog 23 args.toArray w K) : opK Tryd.prog (xCall (.func (.func 23) #[] #[]) args) w K := opK_calls (fun args w => Tryd.call23 args w) (by simpa using h)
theorem o_call_21 {args : List Value} {w : World} {K : Value → World → Prop} (h : Cv Tryd.prog 21 args.toArray w K) : opK Tryd.prog (xCall (.func (.func 21) #[] #[]) args) w K := opK_calls (fun args w => Tryd.call21 args w) (by simpa using h)
theorem o_clo_22 {args : List Value} {cap : Array Value} {w : World} {K : Value → World → Prop} (h : Cv Tryd.prog 22 (args.toArray ++ cap) w K) : opK Tryd.prog (xCall (.func (.func 22) #[] cap) args) w K := opK_calls (fun args w => Tryd.call22 args w) h
theorem o_alloc_4 {w : World} {K : Value → World → Prop} : opK Tryd.prog (xV (Instr.alloc 4 true (.tuple #[]))) w K = K (.pointer (some ⟨w.heap.size, 0, none⟩)) (w.alloc (.cells #[(Value.bool false)] 4)) := opK_alloc Tryd.zeroValue4
theorem o_store_4 {g o : Nat} {v : Value} {w : World} {K : Value → World → Prop} (hn : v.cells.size = 1) (h : stH (w.heap[g]?) o v.cells.toList fun cs => K undef (w.setRow g cs)) : opK Tryd.prog (xU (Instr.storeAt 4 (.pointer (some ⟨g, o, none⟩)) v)) w K := opK_store Tryd.sizeOf4 hn h
theorem o_call_14 {args : List Value} {w : World} {K : Value → World → Prop} (h : Cv Tryd.prog 14 args.toArray w K) : opK Tryd.prog (xCall (.func (.func 14) #[] #[]) args) w K := opK_calls (fun args w => Tryd.call14 args w) (by simpa using h)
theorem o_call_15 {args : List Value} {w : World} {K : Value → World → Prop} (h : Cv Tryd.prog 15 args.toArray w K) : opK Tryd.prog (xCall (.func (.func 15) #[] #[]) args) w K := opK_calls (fun args w => Tryd.call15 args w) (by simpa using h)
theorem o_alloc_3 {w : World} {K : Value → World → Prop} : opK Tryd.prog (xV (Instr.alloc 3 true (.tuple #[]))) w K = K (.pointer (some ⟨w.heap.size, 0, none⟩)) (w.alloc (.cells #[(Value.int .i64 0)] 3)) := opK_alloc Tryd.zeroValue3
theorem o_cell_4 {g o : Nat} {w : World} {K : Value → Prop} (h : ldH (w.heap[g]?) o 1 fun l => K (nth l 0)) : xcell Tryd.prog 4 (.pointer (some ⟨g, o, none⟩)) w K := xcell1 Tryd.isAgg4 h
end Go.Proofs.YtpdeflgmldomeaaDoor
