/- Single operations at this program's types, and its structures; printed by lift.py. -/
import Derived.Test.YthklmeihgmcljaaDoorProg
import Derived.KernelRfl
import Derived.Laws.StructEq
import Derived.Laws.Cover2
import Derived.Test.YthklmeihgmcljaaDoorzLS5
namespace Go.Proofs.YthklmeihgmcljaaDoor
open Go.RowKit
set_option maxRecDepth 100000
set_option maxHeartbeats 2000000
structure b6 where
  o4 : Int
  s6 : Int
structure a6 where
  Y6 : Int
  M8 : ByteArray
  S0 : Int
  fAt : b6
structure a8 where
  fs : ByteArray
  fn : Int
  fat : b6
  fl : Sl
structure q6 where
  f0 : ByteArray
  f1 : ByteArray
  f2 : ByteArray
  f3 : ByteArray
  f4 : ByteArray
  f5 : ByteArray
abbrev f8 (x : a8) (s0 : Sl) : List Value := [(Value.string x.fs), (vi x.fn), (vi x.fat.o4), (vi x.fat.s6), (vs s0)]
abbrev f7 (x : a8) : a8 := a8.mk x.fs x.fn x.fat (Sl.mk none 0 0)
theorem a2D (d : Nat) (a0 b0 : Int) (a1 b1 : Int) (w : World) : (Op.equalIn (d + 2) 25 (.agg #[(Value.int .i64 a0), (Value.int .i64 a1)]) (.agg #[(Value.int .i64 b0), (Value.int .i64 b1)])).run Tryd.prog w = .ok (decide (a0 = b0 ∧ a1 = b1)) w := by
  have u3 := Tryd.underlying3
  have i3 := Tryd.isAgg3
  have s3 := Tryd.sizeOf3
  have hS : Tryd.prog.underlying 25 = some (.struct (Tryd.prog.fieldsOf 25)) := by kernel_rfl
  rw [run_equalIn_agg w (d + 1) 25 _ _ hS (by kernel_rfl)]
  simp only [Program.fieldsOf, Tryd.underlying25]
  go_simp
  try simp only [a0R]
  by_cases h0 : a0 = b0
  · by_cases h1 : a1 = b1
    · simp [h0, h1]
    · simp [h0, h1]
  · simp [h0]
theorem X1 (x y : Operand) (a0 b0 : Int) (a1 b1 : Int) : Pu Tryd.prog (xBin .eql 25 x y (.agg #[(Value.int .i64 a0), (Value.int .i64 a1)]) (.agg #[(Value.int .i64 b0), (Value.int .i64 b1)])) (.bool (decide (a0 = b0 ∧ a1 = b1))) := by
  refine Pu.ok (s := do eqGuard .eql 25 x y (.agg #[(Value.int .i64 a0), (Value.int .i64 a1)]) (.agg #[(Value.int .i64 b0), (Value.int .i64 b1)]); binOp .eql 25 (.agg #[(Value.int .i64 a0), (Value.int .i64 a1)]) (.agg #[(Value.int .i64 b0), (Value.int .i64 b1)])) fun w => ?_
  rw [Sem.run_bind, run_eqGuard_agg w _ _ _ _ _ _ (by kernel_rfl), Result.andThen_ok, run_eql_struct, show (10000 : Nat) = 9998 + 2 from rfl, a2D]
  rfl
theorem a0r (a : Option Addr) (n c : Nat) : Pu Tryd.prog (xBuiltin .len #[23] 3 [false] [.slice a n c]) (.int .i64 (n : Int)) := U0 Tryd.underlying23 a n c
theorem a0s  : Pu Tryd.prog (xV (Instr.build 33 #[])) (.agg #[(Value.int .i64 0), (Value.string ⟨#[]⟩), (Value.int .i64 0), (Value.int .i64 0), (Value.int .i64 0)]) := Pu.ok fun w => by kernel_rfl
theorem P4 {a : Option Addr} {g o : Nat} (ha : a = some ⟨g, o, none⟩) (len cap : Nat) (k : IntKind) (i : Int) (h0 : 0 ≤ i) (h1 : i < len) : Pu Tryd.prog (xV (Instr.indexAt 23 (.slice a len cap) (.int k i))) (.pointer (some ⟨g, o + i.toNat * 5, none⟩)) := a2a Tryd.underlying23 Tryd.sizeOf33 ha len cap k i h0 h1
theorem L4 (s : ByteArray) : Pu Tryd.prog (xBuiltin .len #[9] 3 [false] [.string s]) (.int .i64 (s.size : Int)) := a1Z _ _ s Tryd.underlying9
theorem H5 {g o : Nat} : Pu Tryd.prog (xV (Instr.fieldAt 33 (.pointer (some ⟨g, o, none⟩)) 1)) (.pointer (some ⟨g, o + 1, none⟩)) := Pu.ok fun w => by kernel_rfl
theorem a2f {g o : Nat} : Pu Tryd.prog (xV (Instr.fieldAt 33 (.pointer (some ⟨g, o, none⟩)) 0)) (.pointer (some ⟨g, o + 0, none⟩)) := Pu.ok fun w => by kernel_rfl
theorem Y7 {g o : Nat} : Pu Tryd.prog (xV (Instr.fieldAt 33 (.pointer (some ⟨g, o, none⟩)) 2)) (.pointer (some ⟨g, o + 2, none⟩)) := Pu.ok fun w => by kernel_rfl
theorem F1 (a0 : Int) (a1 : Int) : Pu Tryd.prog (xV (Instr.build 25 #[(0, (Value.int .i64 a0)), (1, (Value.int .i64 a1))])) (.agg #[(Value.int .i64 a0), (Value.int .i64 a1)]) := Pu.ok fun w => by kernel_rfl
theorem a4V (d : Nat) (a0 b0 : Int) (a1 b1 : ByteArray) (a2 b2 : Int) (a3 b3 : Int) (a4 b4 : Int) (w : World) : (Op.equalIn (d + 3) 33 (.agg #[(Value.int .i64 a0), (Value.string a1), (Value.int .i64 a2), (Value.int .i64 a3), (Value.int .i64 a4)]) (.agg #[(Value.int .i64 b0), (Value.string b1), (Value.int .i64 b2), (Value.int .i64 b3), (Value.int .i64 b4)])).run Tryd.prog w = .ok (decide (a0 = b0 ∧ a1 = b1 ∧ a2 = b2 ∧ a3 = b3 ∧ a4 = b4)) w := by
  have u3 := Tryd.underlying3
  have i3 := Tryd.isAgg3
  have s3 := Tryd.sizeOf3
  have u9 := Tryd.underlying9
  have i9 := Tryd.isAgg9
  have s9 := Tryd.sizeOf9
  have u2 := Tryd.underlying2
  have i2 := Tryd.isAgg2
  have s2 := Tryd.sizeOf2
  have e25 := a2D d
  have i25 := Tryd.isAgg25
  have s25 := Tryd.sizeOf25
  have hS : Tryd.prog.underlying 33 = some (.struct (Tryd.prog.fieldsOf 33)) := by kernel_rfl
  rw [run_equalIn_agg w (d + 2) 33 _ _ hS (by kernel_rfl)]
  simp only [Program.fieldsOf, Tryd.underlying33]
  go_simp
  try simp only [a0R]
  by_cases h0 : a0 = b0
  · by_cases h1 : a1 = b1
    · by_cases h2 : a2 = b2
      · by_cases h3 : a3 = b3
        · by_cases h4 : a4 = b4
          · simp [h0, h1, h2, h3, h4]
          · simp [h0, h1, h2, h3, h4]
        · simp [h0, h1, h2, h3]
      · simp [h0, h1, h2]
    · simp [h0, h1]
  · simp [h0]
theorem a3B (x y : Operand) (a0 b0 : Int) (a1 b1 : ByteArray) (a2 b2 : Int) (a3 b3 : Int) (a4 b4 : Int) : Pu Tryd.prog (xBin .eql 33 x y (.agg #[(Value.int .i64 a0), (Value.string a1), (Value.int .i64 a2), (Value.int .i64 a3), (Value.int .i64 a4)]) (.agg #[(Value.int .i64 b0), (Value.string b1), (Value.int .i64 b2), (Value.int .i64 b3), (Value.int .i64 b4)])) (.bool (decide (a0 = b0 ∧ a1 = b1 ∧ a2 = b2 ∧ a3 = b3 ∧ a4 = b4))) := by
  refine Pu.ok (s := do eqGuard .eql 33 x y (.agg #[(Value.int .i64 a0), (Value.string a1), (Value.int .i64 a2), (Value.int .i64 a3), (Value.int .i64 a4)]) (.agg #[(Value.int .i64 b0), (Value.string b1), (Value.int .i64 b2), (Value.int .i64 b3), (Value.int .i64 b4)]); binOp .eql 33 (.agg #[(Value.int .i64 a0), (Value.string a1), (Value.int .i64 a2), (Value.int .i64 a3), (Value.int .i64 a4)]) (.agg #[(Value.int .i64 b0), (Value.string b1), (Value.int .i64 b2), (Value.int .i64 b3), (Value.int .i64 b4)])) fun w => ?_
  rw [Sem.run_bind, run_eqGuard_agg w _ _ _ _ _ _ (by kernel_rfl), Result.andThen_ok, run_eql_struct, show (10000 : Nat) = 9997 + 3 from rfl, a4V]
  rfl
theorem Y8 (a0 : Int) (a1 : ByteArray) (a0U : Int) (a0V : Int) : Pu Tryd.prog (xV (Instr.build 33 #[(0, (Value.int .i64 a0)), (1, (Value.string a1)), (3, (Value.agg #[(Value.int .i64 a0U), (Value.int .i64 a0V)]))])) (.agg #[(Value.int .i64 a0), (Value.string a1), (Value.int .i64 0), (Value.int .i64 a0U), (Value.int .i64 a0V)]) := Pu.ok fun w => by kernel_rfl
theorem S1 {g o : Nat} : Pu Tryd.prog (xV (Instr.fieldAt 33 (.pointer (some ⟨g, o, none⟩)) 3)) (.pointer (some ⟨g, o + 3, none⟩)) := Pu.ok fun w => by kernel_rfl
theorem a0C (a0 : ByteArray) (a4W : Int) (a4X : Int) : Pu Tryd.prog (xV (Instr.build 44 #[(0, (Value.string a0)), (2, (Value.agg #[(Value.int .i64 a4W), (Value.int .i64 a4X)]))])) (.agg #[(Value.string a0), (Value.int .i64 0), (Value.int .i64 a4W), (Value.int .i64 a4X), (Value.slice none 0 0)]) := Pu.ok fun w => by kernel_rfl
abbrev b7 (x : a6) : List Value := [(Value.int .i64 x.Y6), (Value.string x.M8), (Value.int .i64 x.S0), (Value.int .i64 x.fAt.o4), (Value.int .i64 x.fAt.s6)]
theorem H6 (x : a6) : (b7 x).length = 5 := rfl
theorem H7 (x : a6) : (b7 x).all (·.oneCell') = true := rfl
theorem u0 {g o : Nat} : Pu Tryd.prog (xV (Instr.fieldAt 44 (.pointer (some ⟨g, o, none⟩)) 1)) (.pointer (some ⟨g, o + 1, none⟩)) := Pu.ok fun w => by kernel_rfl
theorem K5 {g o : Nat} : Pu Tryd.prog (xV (Instr.fieldAt 44 (.pointer (some ⟨g, o, none⟩)) 0)) (.pointer (some ⟨g, o + 0, none⟩)) := Pu.ok fun w => by kernel_rfl
theorem H8 {g o : Nat} : Pu Tryd.prog (xV (Instr.fieldAt 44 (.pointer (some ⟨g, o, none⟩)) 2)) (.pointer (some ⟨g, o + 2, none⟩)) := Pu.ok fun w => by kernel_rfl
theorem Y9 {g o : Nat} : Pu Tryd.prog (xV (Instr.fieldAt 25 (.pointer (some ⟨g, o, none⟩)) 1)) (.pointer (some ⟨g, o + 1, none⟩)) := Pu.ok fun w => by kernel_rfl
theorem a2g {g o : Nat} : Pu Tryd.prog (xV (Instr.fieldAt 25 (.pointer (some ⟨g, o, none⟩)) 0)) (.pointer (some ⟨g, o + 0, none⟩)) := Pu.ok fun w => by kernel_rfl
theorem O4 {g o : Nat} : Pu Tryd.prog (xV (Instr.fieldAt 44 (.pointer (some ⟨g, o, none⟩)) 3)) (.pointer (some ⟨g, o + 4, none⟩)) := Pu.ok fun w => by kernel_rfl
theorem a0D (a0 : Int) (a0U : Int) (a0V : Int) : Pu Tryd.prog (xV (Instr.build 33 #[(0, (Value.int .i64 a0)), (3, (Value.agg #[(Value.int .i64 a0U), (Value.int .i64 a0V)]))])) (.agg #[(Value.int .i64 a0), (Value.string ⟨#[]⟩), (Value.int .i64 0), (Value.int .i64 a0U), (Value.int .i64 a0V)]) := Pu.ok fun w => by kernel_rfl
theorem a1J (a4Y : Int) (a4Z : ByteArray) (a5a : Int) (a2E : Int) (a2F : Int) (w : World) : (Instr.buildSlice 23 1 #[(0, (Value.agg #[(Value.int .i64 a4Y), (Value.string a4Z), (Value.int .i64 a5a), (Value.int .i64 a2E), (Value.int .i64 a2F)]))]).run Tryd.prog w = .ok (.slice (some ⟨w.heap.size, 0, none⟩) 1 1) (w.alloc (.cells [(Value.int .i64 a4Y), (Value.string a4Z), (Value.int .i64 a5a), (Value.int .i64 a2E), (Value.int .i64 a2F)].toArray 33)) := by kernel_rfl
theorem a5b : Tryd.prog.info? 33 = some ((Tryd.prog.info? 33).getD default) := by kernel_rfl
theorem a2G {E : Pan} {w0 w : World} {ps : Nat → Prop} {H0 H : Hp} {Fs : List Frag} {K : Value → World → Prop} {s : Sl} {xs : List a6} {F : Frag} {t2 : Sl} {ys : List a6} {ks : List Bool} {ty : TypeId} (I : Inv w0 ps H0 H (F :: Fs) w) (hr : RowL 33 5 b7 s xs F) (hs : SrcO w b7 t2 ys) (hb : (xs.length + ys.length) * 49 ≤ 140737488355328) (h : ∀ (s' : Sl) (F' : Frag) (w' : World), RowL 33 5 b7 s' (xs ++ ys) F' → Inv w0 ps H0 H (F' :: Fs) w' → (∀ k, k < w.heap.size → (∀ p ∈ F, p.1 ≠ k) → w'.heap[k]? = w.heap[k]?) → K (.slice s'.a s'.n s'.c) w') : opK Tryd.prog E (xBuiltin .append #[23, 23] ty ks [.slice s.a s.n s.c, .slice t2.a t2.n t2.c]) w K :=
  a6u (bytes := 48) Tryd.underlying23 a5b (z := (Value.agg #[(Value.int .i64 0), (Value.string ⟨#[]⟩), (Value.int .i64 0), (Value.int .i64 0), (Value.int .i64 0)])) (by kernel_rfl) (by kernel_rfl) (by kernel_rfl) (by kernel_rfl) I hr hs hb h
theorem a2H  : Pu Tryd.prog (xV (Instr.build 25 #[])) (.agg #[(Value.int .i64 0), (Value.int .i64 0)]) := Pu.ok fun w => by kernel_rfl
theorem a4x (s : ByteArray) (k : IntKind) (i : Int) (h0 : 0 ≤ i) (h1 : i < s.size) : Pu Tryd.prog (xV (Instr.index 9 (.string s) (.int k i))) (.int .u8 ((s.get! i.toNat).toNat : Int)) := a0Q _ s k i Tryd.underlying9 h0 h1
theorem J6 (a0 : Int) (a1 : ByteArray) : Pu Tryd.prog (xV (Instr.build 33 #[(0, (Value.int .i64 a0)), (1, (Value.string a1))])) (.agg #[(Value.int .i64 a0), (Value.string a1), (Value.int .i64 0), (Value.int .i64 0), (Value.int .i64 0)]) := Pu.ok fun w => by kernel_rfl
theorem a2I (x : Operand) {v : Value} (h : okI v) : Pu Tryd.prog (xBin .neq 84 x (.const Value.nilIface) v Value.nilIface) (.bool (!isNilI v)) := a3z _ _ (by kernel_rfl) h
theorem Q9 (a0 a1 a2 a3 a4 a5 : ByteArray) : Pu Tryd.prog (xV (Instr.build 87 #[(0, .string a0), (1, .string a1), (2, .string a2), (3, .string a3), (4, .string a4), (5, .string a5)])) (.agg #[.string a0, .string a1, .string a2, .string a3, .string a4, .string a5]) := Pu.ok fun w => by kernel_rfl
theorem a2J (a0 a1 a2 a3 a4 a5 : ByteArray) (k : IntKind) (i : Int) (h0 : 0 ≤ i) (h1 : i < 6) : Pu Tryd.prog (xV (Instr.index 87 (.agg #[.string a0, .string a1, .string a2, .string a3, .string a4, .string a5]) (.int k i))) (.string (([a0, a1, a2, a3, a4, a5] : List ByteArray).getD i.toNat ⟨#[]⟩)) := by
  obtain rfl | rfl | rfl | rfl | rfl | rfl := (by omega : i = 0 ∨ i = 1 ∨ i = 2 ∨ i = 3 ∨ i = 4 ∨ i = 5)
  · exact Pu.ok fun w => by kernel_rfl
  · exact Pu.ok fun w => by kernel_rfl
  · exact Pu.ok fun w => by kernel_rfl
  · exact Pu.ok fun w => by kernel_rfl
  · exact Pu.ok fun w => by kernel_rfl
  · exact Pu.ok fun w => by kernel_rfl
abbrev s5 (x : b6) : List Value := [(Value.int .i64 x.o4), (Value.int .i64 x.s6)]
end Go.Proofs.YthklmeihgmcljaaDoor
