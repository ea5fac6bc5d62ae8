/- Single operations at this program's types, and its structures; printed by lift.py. -/
import Derived.Test.YthklmeihgmcljaaDoorProg
import Derived.KernelRfl
import Derived.Laws.StructEq
import Derived.Laws.Cover2
import Derived.Test.YthklmeihgmcljaaDoorzAS5
namespace Go.Proofs.YthklmeihgmcljaaDoor
open Go.RowKit
set_option maxRecDepth 100000
set_option maxHeartbeats 2000000
structure b7 where
  s5 : Int
  y2 : Int
structure a6 where
  L0 : Int
  t7 : ByteArray
  K2 : Int
  fAt : b7
structure a8 where
  fs : ByteArray
  fn : Int
  fat : b7
  fl : Sl
structure s2 where
  f0 : ByteArray
  f1 : ByteArray
  f2 : ByteArray
  f3 : ByteArray
  f4 : ByteArray
  f5 : ByteArray
abbrev f9 (x : a8) (s0 : Sl) : List Value := [(Value.string x.fs), (vi x.fn), (vi x.fat.s5), (vi x.fat.y2), (vs s0)]
abbrev f8 (x : a8) : a8 := a8.mk x.fs x.fn x.fat (Sl.mk none 0 0)
theorem a5n (d : Nat) (a0 b0 : Int) (a1 b1 : Int) (w : World) : (Op.equalIn (d + 2) 25 (.agg #[(Value.int .i64 a0), (Value.int .i64 a1)]) (.agg #[(Value.int .i64 b0), (Value.int .i64 b1)])).run Tryd.prog w = .ok (decide (a0 = b0 ∧ a1 = b1)) w := by
  have u3 := Tryd.underlying3
  have i3 := Tryd.isAgg3
  have s3 := Tryd.sizeOf3
  have hS : Tryd.prog.underlying 25 = some (.struct (Tryd.prog.fieldsOf 25)) := by kernel_rfl
  rw [run_equalIn_agg w (d + 1) 25 _ _ hS (by kernel_rfl)]
  simp only [Program.fieldsOf, Tryd.underlying25]
  go_simp
  try simp only [a3R]
  by_cases h0 : a0 = b0
  · by_cases h1 : a1 = b1
    · simp [h0, h1]
    · simp [h0, h1]
  · simp [h0]
theorem a1a (x y : Operand) (a0 b0 : Int) (a1 b1 : Int) : Pu Tryd.prog (xBin .eql 25 x y (.agg #[(Value.int .i64 a0), (Value.int .i64 a1)]) (.agg #[(Value.int .i64 b0), (Value.int .i64 b1)])) (.bool (decide (a0 = b0 ∧ a1 = b1))) := by
  refine Pu.ok (s := do eqGuard .eql 25 x y (.agg #[(Value.int .i64 a0), (Value.int .i64 a1)]) (.agg #[(Value.int .i64 b0), (Value.int .i64 b1)]); binOp .eql 25 (.agg #[(Value.int .i64 a0), (Value.int .i64 a1)]) (.agg #[(Value.int .i64 b0), (Value.int .i64 b1)])) fun w => ?_
  rw [Sem.run_bind, run_eqGuard_agg w _ _ _ _ _ _ (by kernel_rfl), Result.andThen_ok, run_eql_struct, show (10000 : Nat) = 9998 + 2 from rfl, a5n]
  rfl
theorem O8 (a : Option Addr) (n c : Nat) : Pu Tryd.prog (xBuiltin .len #[23] 3 [false] [.slice a n c]) (.int .i64 (n : Int)) := V2 Tryd.underlying23 a n c
theorem a0A  : Pu Tryd.prog (xV (Instr.build 33 #[])) (.agg #[(Value.int .i64 0), (Value.string ⟨#[]⟩), (Value.int .i64 0), (Value.int .i64 0), (Value.int .i64 0)]) := Pu.ok fun w => by kernel_rfl
theorem E6 {a : Option Addr} {g o : Nat} (ha : a = some ⟨g, o, none⟩) (len cap : Nat) (k : IntKind) (i : Int) (h0 : 0 ≤ i) (h1 : i < len) : Pu Tryd.prog (xV (Instr.indexAt 23 (.slice a len cap) (.int k i))) (.pointer (some ⟨g, o + i.toNat * 5, none⟩)) := a2o Tryd.underlying23 Tryd.sizeOf33 ha len cap k i h0 h1
theorem J4 (s : ByteArray) : Pu Tryd.prog (xBuiltin .len #[9] 3 [false] [.string s]) (.int .i64 (s.size : Int)) := a2n _ _ s Tryd.underlying9
theorem C1 {g o : Nat} : Pu Tryd.prog (xV (Instr.fieldAt 33 (.pointer (some ⟨g, o, none⟩)) 1)) (.pointer (some ⟨g, o + 1, none⟩)) := Pu.ok fun w => by kernel_rfl
theorem T5 {g o : Nat} : Pu Tryd.prog (xV (Instr.fieldAt 33 (.pointer (some ⟨g, o, none⟩)) 0)) (.pointer (some ⟨g, o + 0, none⟩)) := Pu.ok fun w => by kernel_rfl
theorem P9 {g o : Nat} : Pu Tryd.prog (xV (Instr.fieldAt 33 (.pointer (some ⟨g, o, none⟩)) 2)) (.pointer (some ⟨g, o + 2, none⟩)) := Pu.ok fun w => by kernel_rfl
theorem P2 (a0 : Int) (a1 : Int) : Pu Tryd.prog (xV (Instr.build 25 #[(0, (Value.int .i64 a0)), (1, (Value.int .i64 a1))])) (.agg #[(Value.int .i64 a0), (Value.int .i64 a1)]) := Pu.ok fun w => by kernel_rfl
theorem Z9 {g o : Nat} : Pu Tryd.prog (xV (Instr.fieldAt 33 (.pointer (some ⟨g, o, none⟩)) 3)) (.pointer (some ⟨g, o + 3, none⟩)) := Pu.ok fun w => by kernel_rfl
theorem a0J (a0 : ByteArray) (a5o : Int) (a5p : Int) : Pu Tryd.prog (xV (Instr.build 44 #[(0, (Value.string a0)), (2, (Value.agg #[(Value.int .i64 a5o), (Value.int .i64 a5p)]))])) (.agg #[(Value.string a0), (Value.int .i64 0), (Value.int .i64 a5o), (Value.int .i64 a5p), (Value.slice none 0 0)]) := Pu.ok fun w => by kernel_rfl
abbrev b9 (x : a6) : List Value := [(Value.int .i64 x.L0), (Value.string x.t7), (Value.int .i64 x.K2), (Value.int .i64 x.fAt.s5), (Value.int .i64 x.fAt.y2)]
theorem J8 (x : a6) : (b9 x).length = 5 := rfl
theorem J9 (x : a6) : (b9 x).all (·.oneCell') = true := rfl
theorem u6 {g o : Nat} : Pu Tryd.prog (xV (Instr.fieldAt 44 (.pointer (some ⟨g, o, none⟩)) 1)) (.pointer (some ⟨g, o + 1, none⟩)) := Pu.ok fun w => by kernel_rfl
theorem M3 {g o : Nat} : Pu Tryd.prog (xV (Instr.fieldAt 44 (.pointer (some ⟨g, o, none⟩)) 0)) (.pointer (some ⟨g, o + 0, none⟩)) := Pu.ok fun w => by kernel_rfl
theorem K0 {g o : Nat} : Pu Tryd.prog (xV (Instr.fieldAt 44 (.pointer (some ⟨g, o, none⟩)) 2)) (.pointer (some ⟨g, o + 2, none⟩)) := Pu.ok fun w => by kernel_rfl
theorem a0a {g o : Nat} : Pu Tryd.prog (xV (Instr.fieldAt 25 (.pointer (some ⟨g, o, none⟩)) 1)) (.pointer (some ⟨g, o + 1, none⟩)) := Pu.ok fun w => by kernel_rfl
theorem a2w {g o : Nat} : Pu Tryd.prog (xV (Instr.fieldAt 25 (.pointer (some ⟨g, o, none⟩)) 0)) (.pointer (some ⟨g, o + 0, none⟩)) := Pu.ok fun w => by kernel_rfl
theorem Q0 {g o : Nat} : Pu Tryd.prog (xV (Instr.fieldAt 44 (.pointer (some ⟨g, o, none⟩)) 3)) (.pointer (some ⟨g, o + 4, none⟩)) := Pu.ok fun w => by kernel_rfl
theorem a0K (a0 : Int) (a5q : Int) (a5r : Int) : Pu Tryd.prog (xV (Instr.build 33 #[(0, (Value.int .i64 a0)), (3, (Value.agg #[(Value.int .i64 a5q), (Value.int .i64 a5r)]))])) (.agg #[(Value.int .i64 a0), (Value.string ⟨#[]⟩), (Value.int .i64 0), (Value.int .i64 a5q), (Value.int .i64 a5r)]) := Pu.ok fun w => by kernel_rfl
theorem a1S (a5s : Int) (a5t : ByteArray) (a5u : Int) (a2W : Int) (a2X : Int) (w : World) : (Instr.buildSlice 23 1 #[(0, (Value.agg #[(Value.int .i64 a5s), (Value.string a5t), (Value.int .i64 a5u), (Value.int .i64 a2W), (Value.int .i64 a2X)]))]).run Tryd.prog w = .ok (.slice (some ⟨w.heap.size, 0, none⟩) 1 1) (w.alloc (.cells [(Value.int .i64 a5s), (Value.string a5t), (Value.int .i64 a5u), (Value.int .i64 a2W), (Value.int .i64 a2X)].toArray 33)) := by kernel_rfl
theorem a5v : Tryd.prog.info? 33 = some ((Tryd.prog.info? 33).getD default) := by kernel_rfl
theorem a2Y {E : Pan} {w0 w : World} {ps : Nat → Prop} {H0 H : Hp} {Fs : List Frag} {K : Value → World → Prop} {s : Sl} {xs : List a6} {F : Frag} {t2 : Sl} {ys : List a6} {ks : List Bool} {ty : TypeId} (I : Inv w0 ps H0 H (F :: Fs) w) (hr : RowL 33 5 b9 s xs F) (hs : SrcO w b9 t2 ys) (hb : (xs.length + ys.length) * 49 ≤ 140737488355328) (h : ∀ (s' : Sl) (F' : Frag) (w' : World), RowL 33 5 b9 s' (xs ++ ys) F' → Inv w0 ps H0 H (F' :: Fs) w' → (∀ k, k < w.heap.size → (∀ p ∈ F, p.1 ≠ k) → w'.heap[k]? = w.heap[k]?) → K (.slice s'.a s'.n s'.c) w') : opK Tryd.prog E (xBuiltin .append #[23, 23] ty ks [.slice s.a s.n s.c, .slice t2.a t2.n t2.c]) w K :=
  a6P (bytes := 48) Tryd.underlying23 a5v (z := (Value.agg #[(Value.int .i64 0), (Value.string ⟨#[]⟩), (Value.int .i64 0), (Value.int .i64 0), (Value.int .i64 0)])) (by kernel_rfl) (by kernel_rfl) (by kernel_rfl) (by kernel_rfl) I hr hs hb h
theorem a2Z  : Pu Tryd.prog (xV (Instr.build 25 #[])) (.agg #[(Value.int .i64 0), (Value.int .i64 0)]) := Pu.ok fun w => by kernel_rfl
theorem a4M (s : ByteArray) (k : IntKind) (i : Int) (h0 : 0 ≤ i) (h1 : i < s.size) : Pu Tryd.prog (xV (Instr.index 9 (.string s) (.int k i))) (.int .u8 ((s.get! i.toNat).toNat : Int)) := a0W _ s k i Tryd.underlying9 h0 h1
theorem L1 (a0 : Int) (a1 : ByteArray) : Pu Tryd.prog (xV (Instr.build 33 #[(0, (Value.int .i64 a0)), (1, (Value.string a1))])) (.agg #[(Value.int .i64 a0), (Value.string a1), (Value.int .i64 0), (Value.int .i64 0), (Value.int .i64 0)]) := Pu.ok fun w => by kernel_rfl
theorem a3a (x : Operand) {v : Value} (h : okI v) : Pu Tryd.prog (xBin .neq 84 x (.const Value.nilIface) v Value.nilIface) (.bool (!isNilI v)) := a3S _ _ (by kernel_rfl) h
theorem S6 (a0 a1 a2 a3 a4 a5 : ByteArray) : Pu Tryd.prog (xV (Instr.build 87 #[(0, .string a0), (1, .string a1), (2, .string a2), (3, .string a3), (4, .string a4), (5, .string a5)])) (.agg #[.string a0, .string a1, .string a2, .string a3, .string a4, .string a5]) := Pu.ok fun w => by kernel_rfl
theorem a3b (a0 a1 a2 a3 a4 a5 : ByteArray) (k : IntKind) (i : Int) (h0 : 0 ≤ i) (h1 : i < 6) : Pu Tryd.prog (xV (Instr.index 87 (.agg #[.string a0, .string a1, .string a2, .string a3, .string a4, .string a5]) (.int k i))) (.string (([a0, a1, a2, a3, a4, a5] : List ByteArray).getD i.toNat ⟨#[]⟩)) := by
  obtain rfl | rfl | rfl | rfl | rfl | rfl := (by omega : i = 0 ∨ i = 1 ∨ i = 2 ∨ i = 3 ∨ i = 4 ∨ i = 5)
  · exact Pu.ok fun w => by kernel_rfl
  · exact Pu.ok fun w => by kernel_rfl
  · exact Pu.ok fun w => by kernel_rfl
  · exact Pu.ok fun w => by kernel_rfl
  · exact Pu.ok fun w => by kernel_rfl
  · exact Pu.ok fun w => by kernel_rfl
abbrev m6 (x : b7) : List Value := [(Value.int .i64 x.s5), (Value.int .i64 x.y2)]
end Go.Proofs.YthklmeihgmcljaaDoor
