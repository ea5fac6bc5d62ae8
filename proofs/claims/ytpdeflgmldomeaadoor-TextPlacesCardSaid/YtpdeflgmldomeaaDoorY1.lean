/-
  Single operations at this program's types, printed by gen.py.
-/
import Derived.Test.YtpdeflgmldomeaaDoorProg
import Derived.Test.YtpdeflgmldomeaaDoorE2
import Derived.KernelRfl
namespace Go.Proofs.YtpdeflgmldomeaaDoor
open Go.RowKit

theorem o_len_9 (s : ByteArray) {w : World} {K : Value → World → Prop} : opK Tryd.prog (xBuiltin .len #[9] 3 [false] [.string s]) w K = K (.int .i64 (s.size : Int)) w := opK_len_str _ _ s Tryd.underlying9
theorem o_range_9 (s : ByteArray) {w : World} {K : Value → World → Prop} : opK Tryd.prog (xV (Instr.range 9 (.string s))) w K = K (.pointer (some ⟨w.heap.size, 0, none⟩)) (w.alloc (.stringIter s 0)) := opK_range_str Tryd.underlying9 s
theorem o_call_17 {args : List Value} {w : World} {K : Value → World → Prop} (h : Cv Tryd.prog 17 args.toArray w K) : opK Tryd.prog (xCall (.func (.func 17) #[] #[]) args) w K := opK_calls (fun args w => Tryd.call17 args w) (by simpa using h)
theorem o_call_16 {args : List Value} {w : World} {K : Value → World → Prop} (h : Cv Tryd.prog 16 args.toArray w K) : opK Tryd.prog (xCall (.func (.func 16) #[] #[]) args) w K := opK_calls (fun args w => Tryd.call16 args w) (by simpa using h)
theorem o_load_21 {g o : Nat} {w : World} {K : Value → World → Prop} (h : ldH (w.heap[g]?) o 1 fun l => K (nth l 0) w) : opK Tryd.prog (xV (Instr.loadAt 21 (.pointer (some ⟨g, o, none⟩)))) w K := opK_load1 Tryd.isAgg21 h
theorem o_clo_18 {args : List Value} {cap : Array Value} {w : World} {K : Value → World → Prop} (h : Cv Tryd.prog 18 (args.toArray ++ cap) w K) : opK Tryd.prog (xCall (.func (.func 18) #[] cap) args) w K := opK_calls (fun args w => Tryd.call18 args w) h
theorem o_call_19 {args : List Value} {w : World} {K : Value → World → Prop} (h : Cv Tryd.prog 19 args.toArray w K) : opK Tryd.prog (xCall (.func (.func 19) #[] #[]) args) w K := opK_calls (fun args w => Tryd.call19 args w) (by simpa using h)
theorem o_index_9 (s : ByteArray) (k : IntKind) (i : Int) {w : World} {K : Value → World → Prop} (h0 : 0 ≤ i) (h1 : i < s.size) : opK Tryd.prog (xV (Instr.index 9 (.string s) (.int k i))) w K = K (.int .u8 ((s.get! i.toNat).toNat : Int)) w := opK_index_str _ s k i Tryd.underlying9 h0 h1
theorem o_conv_5_3 (k : IntKind) (n : Int) {w : World} {K : Value → World → Prop} (h1 : -9223372036854775808 ≤ n) (h2 : n ≤ 9223372036854775807) : opK Tryd.prog (xV (convert 5 3 (.int k n))) w K = K (.int .i64 n) w := opK_conv64 _ _ k n (by rw [Tryd.underlying5]; rfl) Tryd.underlying3 h1 h2
theorem o_alloc_33 {w : World} {K : Value → World → Prop} : opK Tryd.prog (xV (Instr.alloc 33 true (.tuple #[]))) w K = K (.pointer (some ⟨w.heap.size, 0, none⟩)) (w.alloc (.cells #[(Value.int .i64 0), (Value.int .i64 0)] 33)) := opK_alloc Tryd.zeroValue33
theorem o_build_33_0_1 (x0 : Int) (x1 : Int) {w : World} {K : Value → World → Prop} : opK Tryd.prog (xV (Instr.build 33 #[(0, (.int .i64 x0)), (1, (.int .i64 x1))])) w K = K (.agg #[(.int .i64 x0), (.int .i64 x1)]) w := opK_ok (by kernel_rfl)
theorem o_store_33 {g o : Nat} {v : Value} {w : World} {K : Value → World → Prop} (hn : v.cells.size = 2) (h : stH (w.heap[g]?) o v.cells.toList fun cs => K undef (w.setRow g cs)) : opK Tryd.prog (xU (Instr.storeAt 33 (.pointer (some ⟨g, o, none⟩)) v)) w K := opK_store Tryd.sizeOf33 hn h
theorem o_fa_33_1 {g o : Nat} {w : World} {K : Value → World → Prop} : opK Tryd.prog (xV (Instr.fieldAt 33 (.pointer (some ⟨g, o, none⟩)) 1)) w K = K (.pointer (some ⟨g, o + 1, none⟩)) w := opK_ok (by kernel_rfl)
theorem o_load_3 {g o : Nat} {w : World} {K : Value → World → Prop} (h : ldH (w.heap[g]?) o 1 fun l => K (nth l 0) w) : opK Tryd.prog (xV (Instr.loadAt 3 (.pointer (some ⟨g, o, none⟩)))) w K := opK_load1 Tryd.isAgg3 h
theorem o_store_3 {g o : Nat} {v : Value} {w : World} {K : Value → World → Prop} (hn : v.cells.size = 1) (h : stH (w.heap[g]?) o v.cells.toList fun cs => K undef (w.setRow g cs)) : opK Tryd.prog (xU (Instr.storeAt 3 (.pointer (some ⟨g, o, none⟩)) v)) w K := opK_store Tryd.sizeOf3 hn h
theorem o_fa_33_0 {g o : Nat} {w : World} {K : Value → World → Prop} : opK Tryd.prog (xV (Instr.fieldAt 33 (.pointer (some ⟨g, o, none⟩)) 0)) w K = K (.pointer (some ⟨g, o, none⟩)) w := opK_ok (by kernel_rfl)
theorem o_load_33 {g o : Nat} {w : World} {K : Value → World → Prop} (h : ldH (w.heap[g]?) o 2 fun l => K (.agg l.toArray) w) : opK Tryd.prog (xV (Instr.loadAt 33 (.pointer (some ⟨g, o, none⟩)))) w K := opK_loadA Tryd.isAgg33 Tryd.sizeOf33 h
theorem o_call_9 {args : List Value} {w : World} {K : Value → World → Prop} (h : Cv Tryd.prog 9 args.toArray w K) : opK Tryd.prog (xCall (.func (.func 9) #[] #[]) args) w K := opK_calls (fun args w => Tryd.call9 args w) (by simpa using h)
theorem o_call_11 {args : List Value} {w : World} {K : Value → World → Prop} (h : Cv Tryd.prog 11 args.toArray w K) : opK Tryd.prog (xCall (.func (.func 11) #[] #[]) args) w K := opK_calls (fun args w => Tryd.call11 args w) (by simpa using h)
theorem o_call_13 {args : List Value} {w : World} {K : Value → World → Prop} (h : Cv Tryd.prog 13 args.toArray w K) : opK Tryd.prog (xCall (.func (.func 13) #[] #[]) args) w K := opK_calls (fun args w => Tryd.call13 args w) (by simpa using h)
theorem o_call_8 {args : List Value} {w : World} {K : Value → World → Prop} (h : Cv Tryd.prog 8 args.toArray w K) : opK Tryd.prog (xCall (.func (.func 8) #[] #[]) args) w K := opK_calls (fun args w => Tryd.call8 args w) (by simpa using h)
theorem o_call_10 {args : List Value} {w : World} {K : Value → World → Prop} (h : Cv Tryd.prog 10 args.toArray w K) : opK Tryd.prog (xCall (.func (.func 10) #[] #[]) args) w K := opK_calls (fun args w => Tryd.call10 args w) (by simpa using h)
theorem o_conv_21_3 (k : IntKind) (n : Int) {w : World} {K : Value → World → Prop} (h1 : -9223372036854775808 ≤ n) (h2 : n ≤ 9223372036854775807) : opK Tryd.prog (xV (convert 21 3 (.int k n))) w K = K (.int .i64 n) w := opK_conv64 _ _ k n (by rw [Tryd.underlying21]; rfl) Tryd.underlying3 h1 h2
theorem o_call_12 {args : List Value} {w : World} {K : Value → World → Prop} (h : Cv Tryd.prog 12 args.toArray w K) : opK Tryd.prog (xCall (.func (.func 12) #[] #[]) args) w K := opK_calls (fun args w => Tryd.call12 args w) (by simpa using h)
theorem o_cell_33 {g o : Nat} {w : World} {K : Value → Prop} (h : ldH (w.heap[g]?) o 2 fun l => K (.agg l.toArray)) : xcell Tryd.prog 33 (.pointer (some ⟨g, o, none⟩)) w K := xcellA Tryd.isAgg33 Tryd.sizeOf33 h
end Go.Proofs.YtpdeflgmldomeaaDoor
