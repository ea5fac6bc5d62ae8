/- Single operations at this program's types, and its structures; printed by lift.py. -/
import Derived.Test.YthklmeihgmcljaaDoorProg
import Derived.KernelRfl
import Derived.Laws.StructEq
import Derived.Laws.Cover2
import Derived.Test.YthklmeihgmcljaaDoorzTS5
namespace Go.Proofs.YthklmeihgmcljaaDoor
open Go.RowKit
set_option maxRecDepth 100000
set_option maxHeartbeats 2000000
structure a8 where
  m6 : Int
  r6 : Int
structure a6 where
  P4 : Int
  G5 : ByteArray
  O7 : Int
  fAt : a8
structure b5 where
  fs : ByteArray
  fn : Int
  fat : a8
  fl : Sl
structure u0 where
  f0 : ByteArray
  f1 : ByteArray
  f2 : ByteArray
  f3 : ByteArray
  f4 : ByteArray
  f5 : ByteArray
abbrev g6 (x : b5) (s0 : Sl) : List Value := [(Value.string x.fs), (vi x.fn), (vi x.fat.m6), (vi x.fat.r6), (vs s0)]
abbrev g5 (x : b5) : b5 := b5.mk x.fs x.fn x.fat (Sl.mk none 0 0)
theorem a3a (d : Nat) (a0 b0 : Int) (a1 b1 : Int) (w : World) : (Op.equalIn (d + 2) 25 (.agg #[(Value.int .i64 a0), (Value.int .i64 a1)]) (.agg #[(Value.int .i64 b0), (Value.int .i64 b1)])).run Tryd.prog w = .ok (decide (a0 = b0 ∧ a1 = b1)) w := by
  have u3 := Tryd.underlying3
  have i3 := Tryd.isAgg3
  have s3 := Tryd.sizeOf3
  have hS : Tryd.prog.underlying 25 = some (.struct (Tryd.prog.fieldsOf 25)) := by kernel_rfl
  rw [run_equalIn_agg w (d + 1) 25 _ _ hS (by kernel_rfl)]
  simp only [Program.fieldsOf, Tryd.underlying25]
  go_simp
  try simp only [a2X]
  by_cases h0 : a0 = b0
  · by_cases h1 : a1 = b1
    · simp [h0, h1]
    · simp [h0, h1]
  · simp [h0]
theorem a3b (x y : Operand) (a0 b0 : Int) (a1 b1 : Int) : Pu Tryd.prog (xBin .eql 25 x y (.agg #[(Value.int .i64 a0), (Value.int .i64 a1)]) (.agg #[(Value.int .i64 b0), (Value.int .i64 b1)])) (.bool (decide (a0 = b0 ∧ a1 = b1))) := by
  refine Pu.ok (s := do eqGuard .eql 25 x y (.agg #[(Value.int .i64 a0), (Value.int .i64 a1)]) (.agg #[(Value.int .i64 b0), (Value.int .i64 b1)]); binOp .eql 25 (.agg #[(Value.int .i64 a0), (Value.int .i64 a1)]) (.agg #[(Value.int .i64 b0), (Value.int .i64 b1)])) fun w => ?_
  rw [Sem.run_bind, run_eqGuard_agg w _ _ _ _ _ _ (by kernel_rfl), Result.andThen_ok, run_eql_struct, show (10000 : Nat) = 9998 + 2 from rfl, a3a]
  rfl
theorem a6r (x y : Operand) (a0 b0 : Int) (a1 b1 : Int) : Pu Tryd.prog (xBin .neq 25 x y (.agg #[(Value.int .i64 a0), (Value.int .i64 a1)]) (.agg #[(Value.int .i64 b0), (Value.int .i64 b1)])) (.bool (!decide (a0 = b0 ∧ a1 = b1))) := by
  refine Pu.ok (s := do eqGuard .neq 25 x y (.agg #[(Value.int .i64 a0), (Value.int .i64 a1)]) (.agg #[(Value.int .i64 b0), (Value.int .i64 b1)]); binOp .neq 25 (.agg #[(Value.int .i64 a0), (Value.int .i64 a1)]) (.agg #[(Value.int .i64 b0), (Value.int .i64 b1)])) fun w => ?_
  rw [Sem.run_bind, run_eqGuard_agg w _ _ _ _ _ _ (by kernel_rfl), Result.andThen_ok, run_neq_struct, show (10000 : Nat) = 9998 + 2 from rfl, a3a]
  rfl
theorem Z8 (a : Option Addr) (n c : Nat) : Pu Tryd.prog (xBuiltin .len #[23] 3 [false] [.slice a n c]) (.int .i64 (n : Int)) := a0O Tryd.underlying23 a n c
theorem N5  : Pu Tryd.prog (xV (Instr.build 33 #[])) (.agg #[(Value.int .i64 0), (Value.string ⟨#[]⟩), (Value.int .i64 0), (Value.int .i64 0), (Value.int .i64 0)]) := Pu.ok fun w => by kernel_rfl
theorem T5 {a : Option Addr} {g o : Nat} (ha : a = some ⟨g, o, none⟩) (len cap : Nat) (k : IntKind) (i : Int) (h0 : 0 ≤ i) (h1 : i < len) : Pu Tryd.prog (xV (Instr.indexAt 23 (.slice a len cap) (.int k i))) (.pointer (some ⟨g, o + i.toNat * 5, none⟩)) := a4E Tryd.underlying23 Tryd.sizeOf33 ha len cap k i h0 h1
theorem y5 (s : ByteArray) : Pu Tryd.prog (xBuiltin .len #[9] 3 [false] [.string s]) (.int .i64 (s.size : Int)) := a4D _ _ s Tryd.underlying9
theorem Q5 {g o : Nat} : Pu Tryd.prog (xV (Instr.fieldAt 33 (.pointer (some ⟨g, o, none⟩)) 1)) (.pointer (some ⟨g, o + 1, none⟩)) := Pu.ok fun w => by kernel_rfl
theorem a4L {g o : Nat} : Pu Tryd.prog (xV (Instr.fieldAt 33 (.pointer (some ⟨g, o, none⟩)) 0)) (.pointer (some ⟨g, o + 0, none⟩)) := Pu.ok fun w => by kernel_rfl
theorem a1O {g o : Nat} : Pu Tryd.prog (xV (Instr.fieldAt 33 (.pointer (some ⟨g, o, none⟩)) 2)) (.pointer (some ⟨g, o + 2, none⟩)) := Pu.ok fun w => by kernel_rfl
theorem M0 (a0 : Int) (a1 : Int) : Pu Tryd.prog (xV (Instr.build 25 #[(0, (Value.int .i64 a0)), (1, (Value.int .i64 a1))])) (.agg #[(Value.int .i64 a0), (Value.int .i64 a1)]) := Pu.ok fun w => by kernel_rfl
theorem a7H (d : Nat) (a0 b0 : Int) (a1 b1 : ByteArray) (a2 b2 : Int) (a3 b3 : Int) (a4 b4 : Int) (w : World) : (Op.equalIn (d + 3) 33 (.agg #[(Value.int .i64 a0), (Value.string a1), (Value.int .i64 a2), (Value.int .i64 a3), (Value.int .i64 a4)]) (.agg #[(Value.int .i64 b0), (Value.string b1), (Value.int .i64 b2), (Value.int .i64 b3), (Value.int .i64 b4)])).run Tryd.prog w = .ok (decide (a0 = b0 ∧ a1 = b1 ∧ a2 = b2 ∧ a3 = b3 ∧ a4 = b4)) w := by
  have u3 := Tryd.underlying3
  have i3 := Tryd.isAgg3
  have s3 := Tryd.sizeOf3
  have u9 := Tryd.underlying9
  have i9 := Tryd.isAgg9
  have s9 := Tryd.sizeOf9
  have u2 := Tryd.underlying2
  have i2 := Tryd.isAgg2
  have s2 := Tryd.sizeOf2
  have e25 := a3a d
  have i25 := Tryd.isAgg25
  have s25 := Tryd.sizeOf25
  have hS : Tryd.prog.underlying 33 = some (.struct (Tryd.prog.fieldsOf 33)) := by kernel_rfl
  rw [run_equalIn_agg w (d + 2) 33 _ _ hS (by kernel_rfl)]
  simp only [Program.fieldsOf, Tryd.underlying33]
  go_simp
  try simp only [a2X]
  by_cases h0 : a0 = b0
  · by_cases h1 : a1 = b1
    · by_cases h2 : a2 = b2
      · by_cases h3 : a3 = b3
        · by_cases h4 : a4 = b4
          · simp [h0, h1, h2, h3, h4]
          · simp [h0, h1, h2, h3, h4]
        · simp [h0, h1, h2, h3]
      · simp [h0, h1, h2]
    · simp [h0, h1]
  · simp [h0]
theorem a6s (x y : Operand) (a0 b0 : Int) (a1 b1 : ByteArray) (a2 b2 : Int) (a3 b3 : Int) (a4 b4 : Int) : Pu Tryd.prog (xBin .neq 33 x y (.agg #[(Value.int .i64 a0), (Value.string a1), (Value.int .i64 a2), (Value.int .i64 a3), (Value.int .i64 a4)]) (.agg #[(Value.int .i64 b0), (Value.string b1), (Value.int .i64 b2), (Value.int .i64 b3), (Value.int .i64 b4)])) (.bool (!decide (a0 = b0 ∧ a1 = b1 ∧ a2 = b2 ∧ a3 = b3 ∧ a4 = b4))) := by
  refine Pu.ok (s := do eqGuard .neq 33 x y (.agg #[(Value.int .i64 a0), (Value.string a1), (Value.int .i64 a2), (Value.int .i64 a3), (Value.int .i64 a4)]) (.agg #[(Value.int .i64 b0), (Value.string b1), (Value.int .i64 b2), (Value.int .i64 b3), (Value.int .i64 b4)]); binOp .neq 33 (.agg #[(Value.int .i64 a0), (Value.string a1), (Value.int .i64 a2), (Value.int .i64 a3), (Value.int .i64 a4)]) (.agg #[(Value.int .i64 b0), (Value.string b1), (Value.int .i64 b2), (Value.int .i64 b3), (Value.int .i64 b4)])) fun w => ?_
  rw [Sem.run_bind, run_eqGuard_agg w _ _ _ _ _ _ (by kernel_rfl), Result.andThen_ok, run_neq_struct, show (10000 : Nat) = 9997 + 3 from rfl, a7H]
  rfl
theorem a0u {g o : Nat} : Pu Tryd.prog (xV (Instr.fieldAt 33 (.pointer (some ⟨g, o, none⟩)) 3)) (.pointer (some ⟨g, o + 3, none⟩)) := Pu.ok fun w => by kernel_rfl
theorem a2G (a0 : ByteArray) (a7I : Int) (a7J : Int) : Pu Tryd.prog (xV (Instr.build 44 #[(0, (Value.string a0)), (2, (Value.agg #[(Value.int .i64 a7I), (Value.int .i64 a7J)]))])) (.agg #[(Value.string a0), (Value.int .i64 0), (Value.int .i64 a7I), (Value.int .i64 a7J), (Value.slice none 0 0)]) := Pu.ok fun w => by kernel_rfl
abbrev b6 (x : a6) : List Value := [(Value.int .i64 x.P4), (Value.string x.G5), (Value.int .i64 x.O7), (Value.int .i64 x.fAt.m6), (Value.int .i64 x.fAt.r6)]
theorem C7 (x : a6) : (b6 x).length = 5 := rfl
theorem C8 (x : a6) : (b6 x).all (·.oneCell') = true := rfl
theorem B1 {g o : Nat} : Pu Tryd.prog (xV (Instr.fieldAt 44 (.pointer (some ⟨g, o, none⟩)) 1)) (.pointer (some ⟨g, o + 1, none⟩)) := Pu.ok fun w => by kernel_rfl
theorem S7 {g o : Nat} : Pu Tryd.prog (xV (Instr.fieldAt 44 (.pointer (some ⟨g, o, none⟩)) 0)) (.pointer (some ⟨g, o + 0, none⟩)) := Pu.ok fun w => by kernel_rfl
theorem Q6 {g o : Nat} : Pu Tryd.prog (xV (Instr.fieldAt 44 (.pointer (some ⟨g, o, none⟩)) 2)) (.pointer (some ⟨g, o + 2, none⟩)) := Pu.ok fun w => by kernel_rfl
theorem M3 {g o : Nat} : Pu Tryd.prog (xV (Instr.fieldAt 25 (.pointer (some ⟨g, o, none⟩)) 1)) (.pointer (some ⟨g, o + 1, none⟩)) := Pu.ok fun w => by kernel_rfl
theorem S8 {g o : Nat} : Pu Tryd.prog (xV (Instr.fieldAt 25 (.pointer (some ⟨g, o, none⟩)) 0)) (.pointer (some ⟨g, o + 0, none⟩)) := Pu.ok fun w => by kernel_rfl
theorem W8 {g o : Nat} : Pu Tryd.prog (xV (Instr.fieldAt 44 (.pointer (some ⟨g, o, none⟩)) 3)) (.pointer (some ⟨g, o + 4, none⟩)) := Pu.ok fun w => by kernel_rfl
theorem a0B (a0 : Int) (a7K : Int) (a7L : Int) : Pu Tryd.prog (xV (Instr.build 33 #[(0, (Value.int .i64 a0)), (3, (Value.agg #[(Value.int .i64 a7K), (Value.int .i64 a7L)]))])) (.agg #[(Value.int .i64 a0), (Value.string ⟨#[]⟩), (Value.int .i64 0), (Value.int .i64 a7K), (Value.int .i64 a7L)]) := Pu.ok fun w => by kernel_rfl
theorem a1g (a7M : Int) (a7N : ByteArray) (a7O : Int) (a5j : Int) (a5k : Int) (w : World) : (Instr.buildSlice 23 1 #[(0, (Value.agg #[(Value.int .i64 a7M), (Value.string a7N), (Value.int .i64 a7O), (Value.int .i64 a5j), (Value.int .i64 a5k)]))]).run Tryd.prog w = .ok (.slice (some ⟨w.heap.size, 0, none⟩) 1 1) (w.alloc (.cells [(Value.int .i64 a7M), (Value.string a7N), (Value.int .i64 a7O), (Value.int .i64 a5j), (Value.int .i64 a5k)].toArray 33)) := by kernel_rfl
theorem a7P : Tryd.prog.info? 33 = some ((Tryd.prog.info? 33).getD default) := by kernel_rfl
theorem a1P {E : Pan} {w0 w : World} {ps : Nat → Prop} {H0 H : Hp} {Fs : List Frag} {K : Value → World → Prop} {s : Sl} {xs : List a6} {F : Frag} {t2 : Sl} {ys : List a6} {ks : List Bool} {ty : TypeId} (I : Inv w0 ps H0 H (F :: Fs) w) (hr : RowL 33 5 b6 s xs F) (hs : SrcO w b6 t2 ys) (hb : (xs.length + ys.length) * 49 ≤ 140737488355328) (h : ∀ (s' : Sl) (F' : Frag) (w' : World), RowL 33 5 b6 s' (xs ++ ys) F' → Inv w0 ps H0 H (F' :: Fs) w' → (∀ k, k < w.heap.size → (∀ p ∈ F, p.1 ≠ k) → w'.heap[k]? = w.heap[k]?) → K (.slice s'.a s'.n s'.c) w') : opK Tryd.prog E (xBuiltin .append #[23, 23] ty ks [.slice s.a s.n s.c, .slice t2.a t2.n t2.c]) w K :=
  a9C (bytes := 48) Tryd.underlying23 a7P (z := (Value.agg #[(Value.int .i64 0), (Value.string ⟨#[]⟩), (Value.int .i64 0), (Value.int .i64 0), (Value.int .i64 0)])) (by kernel_rfl) (by kernel_rfl) (by kernel_rfl) (by kernel_rfl) I hr hs hb h
theorem a2u  : Pu Tryd.prog (xV (Instr.build 25 #[])) (.agg #[(Value.int .i64 0), (Value.int .i64 0)]) := Pu.ok fun w => by kernel_rfl
theorem E9 (s : ByteArray) (k : IntKind) (i : Int) (h0 : 0 ≤ i) (h1 : i < s.size) : Pu Tryd.prog (xV (Instr.index 9 (.string s) (.int k i))) (.int .u8 ((s.get! i.toNat).toNat : Int)) := a2W _ s k i Tryd.underlying9 h0 h1
theorem C3 (a0 : Int) (a1 : ByteArray) : Pu Tryd.prog (xV (Instr.build 33 #[(0, (Value.int .i64 a0)), (1, (Value.string a1))])) (.agg #[(Value.int .i64 a0), (Value.string a1), (Value.int .i64 0), (Value.int .i64 0), (Value.int .i64 0)]) := Pu.ok fun w => by kernel_rfl
theorem a0Q (k : IntKind) (n : Int) : Pu Tryd.prog (xV (convert 5 3 (.int k n))) (.int .i64 (IntKind.wrap .i64 n)) := Pu.ok fun w => run_convert_int (P := Tryd.prog) (w := w) 5 3 k n (by rw [Tryd.underlying5]; rfl) Tryd.underlying3
theorem a5l (x : Operand) {v : Value} (h : okI v) : Pu Tryd.prog (xBin .neq 84 x (.const Value.nilIface) v Value.nilIface) (.bool (!isNilI v)) := a6p _ _ (by kernel_rfl) h
theorem a0g (a0 a1 a2 a3 a4 a5 : ByteArray) : Pu Tryd.prog (xV (Instr.build 87 #[(0, .string a0), (1, .string a1), (2, .string a2), (3, .string a3), (4, .string a4), (5, .string a5)])) (.agg #[.string a0, .string a1, .string a2, .string a3, .string a4, .string a5]) := Pu.ok fun w => by kernel_rfl
theorem a5m (a0 a1 a2 a3 a4 a5 : ByteArray) (k : IntKind) (i : Int) (h0 : 0 ≤ i) (h1 : i < 6) : Pu Tryd.prog (xV (Instr.index 87 (.agg #[.string a0, .string a1, .string a2, .string a3, .string a4, .string a5]) (.int k i))) (.string (([a0, a1, a2, a3, a4, a5] : List ByteArray).getD i.toNat ⟨#[]⟩)) := by
  obtain rfl | rfl | rfl | rfl | rfl | rfl := (by omega : i = 0 ∨ i = 1 ∨ i = 2 ∨ i = 3 ∨ i = 4 ∨ i = 5)
  · exact Pu.ok fun w => by kernel_rfl
  · exact Pu.ok fun w => by kernel_rfl
  · exact Pu.ok fun w => by kernel_rfl
  · exact Pu.ok fun w => by kernel_rfl
  · exact Pu.ok fun w => by kernel_rfl
  · exact Pu.ok fun w => by kernel_rfl
theorem a4M (k : IntKind) (n : Int) : Pu Tryd.prog (xV (convert 5 88 (.int k n))) (.int .u64 (IntKind.wrap .u64 n)) := Pu.ok fun w => run_convert_int (P := Tryd.prog) (w := w) 5 88 k n (by rw [Tryd.underlying5]; rfl) Tryd.underlying88
theorem a4N (k : IntKind) (n : Int) : Pu Tryd.prog (xV (convert 88 2 (.int k n))) (.int .i64 (IntKind.wrap .i64 n)) := Pu.ok fun w => run_convert_int (P := Tryd.prog) (w := w) 88 2 k n (by rw [Tryd.underlying88]; rfl) Tryd.underlying2
theorem a1Q (a0 : Int) (a1 : ByteArray) (a2 : Int) : Pu Tryd.prog (xV (Instr.build 33 #[(0, (Value.int .i64 a0)), (1, (Value.string a1)), (2, (Value.int .i64 a2))])) (.agg #[(Value.int .i64 a0), (Value.string a1), (Value.int .i64 a2), (Value.int .i64 0), (Value.int .i64 0)]) := Pu.ok fun w => by kernel_rfl
abbrev c8 (x : a8) : List Value := [(Value.int .i64 x.m6), (Value.int .i64 x.r6)]
end Go.Proofs.YthklmeihgmcljaaDoor
