/- Single operations at this program's types, and its structures; printed by lift.py. -/
import Derived.Test.YtnhkdkcgdcgmdaaDoorProg
import Derived.Test.YtnhkdkcgdcgmdaaDoorzNS5
import Derived.KernelRfl
import Derived.Laws.StructEq
import Derived.Laws.Tables
import Derived.Laws.Cover2
namespace Go.Proofs.YtnhkdkcgdcgmdaaDoor
open Go.RowKit
set_option maxRecDepth 100000
set_option maxHeartbeats 2000000
structure l7 where
  b9 : Int
  C4 : Int
  d6 : ByteArray
  A5 : Sl
structure u1 where
  b9 : Int
  fOp : Int
  j7 : Sl
  u5 : Sl
structure r9 where
  a3z : Sl
  a4T : Sl
structure o2 where
  q8 : Int
  O0 : Int
  q9 : Int
  v6 : Sl
  a1Z : Sl
  J8 : Sl
structure F7 where
  a0Z : Bool
  C4 : Int
  a7M : Bool
structure j9 where
  d6 : ByteArray
  E6 : Int
structure r6 where
  b9 : Int
  d6 : ByteArray
  j7 : Sl
  s6 : Sl
  K3 : Sl
  H9 : Sl
structure g8 where
  fnodes : Int
  fdepth : Int
  fe : Int
  fform : Bool
  fnamed : Bool
  fnames : Sl
structure f8 where
  fl : Sl
structure b8 where
  fname : ByteArray
  fas : Int
structure E7 where
  m5 : l7
structure b6C where
  fn : Int
  fdepth : Int
  fbad : Int
structure b6D where
  fok : Bool
  fnames : Bool
structure L4 where
  k5 : u1
structure O5 where
  O6 : j9
structure L5 where
  d8 : r6
structure g7D where
  f0 : Int
  f1 : Int
structure E2 where
  fexprs : Int
  fparts : Int
structure L9 where
  fexprs : Int
  fconds : Int
inductive a8 where
  | nil
  | D1 (x : E7)
  | J0 (x : L4)
  | G5 (x : O5)
  | D7 (x : L5)
def u6 : a8 → Value
  | .nil => .nilIface
  | .D1 x => .iface 123 (.agg #[(Value.int .i64 x.m5.b9), (Value.int .i64 x.m5.C4), (Value.string x.m5.d6), (Value.slice x.m5.A5.a x.m5.A5.n x.m5.A5.c)])
  | .J0 x => .iface 138 (.agg #[(Value.int .i64 x.k5.b9), (Value.int .i64 x.k5.fOp), (Value.slice x.k5.j7.a x.k5.j7.n x.k5.j7.c), (Value.slice x.k5.u5.a x.k5.u5.n x.k5.u5.c)])
  | .G5 x => .iface 177 (.agg #[(Value.string x.O6.d6), (Value.int .i64 x.O6.E6)])
  | .D7 x => .iface 179 (.agg #[(Value.int .i64 x.d8.b9), (Value.string x.d8.d6), (Value.slice x.d8.j7.a x.d8.j7.n x.d8.j7.c), (Value.slice x.d8.s6.a x.d8.s6.n x.d8.s6.c), (Value.slice x.d8.K3.a x.d8.K3.n x.d8.K3.c), (Value.slice x.d8.H9.a x.d8.H9.n x.d8.H9.c)])
theorem c1I (x : a8) : [u6 x].all (·.oneCell') = true := by cases x <;> rfl
def a8.p8 : a8 → E7
  | .D1 x => x
  | _ => (E7.mk (l7.mk 0 0 ⟨#[]⟩ (Sl.mk none 0 0)))
def a8.a3Y : a8 → Bool
  | .D1 _ => true
  | _ => false
def a8.S6 : a8 → O5
  | .G5 x => x
  | _ => (O5.mk (j9.mk ⟨#[]⟩ 0))
def a8.a3Z : a8 → Bool
  | .G5 _ => true
  | _ => false
def a8.i6 : a8 → L5
  | .D7 x => x
  | _ => (L5.mk (r6.mk 0 ⟨#[]⟩ (Sl.mk none 0 0) (Sl.mk none 0 0) (Sl.mk none 0 0) (Sl.mk none 0 0)))
def a8.a4a : a8 → Bool
  | .D7 _ => true
  | _ => false
theorem X1 {g o : Nat} : Pu Tryd.prog (xV (Instr.fieldAt 24 (.pointer (some ⟨g, o, none⟩)) 0)) (.pointer (some ⟨g, o + 0, none⟩)) := Pu.ok fun w => by kernel_rfl
theorem a4b {g o : Nat} : Pu Tryd.prog (xV (Instr.fieldAt 24 (.pointer (some ⟨g, o, none⟩)) 3)) (.pointer (some ⟨g, o + 3, none⟩)) := Pu.ok fun w => by kernel_rfl
theorem a2R (a : Option Addr) (n c : Nat) : Pu Tryd.prog (xBuiltin .len #[22] 3 [false] [.slice a n c]) (.int .i64 (n : Int)) := U2 Tryd.underlying22 a n c
theorem a7N {g o : Nat} : Pu Tryd.prog (xV (Instr.fieldAt 27 (.pointer (some ⟨g, o, none⟩)) 0)) (.pointer (some ⟨g, o + 0, none⟩)) := Pu.ok fun w => by kernel_rfl
theorem a2b {g o : Nat} : Pu Tryd.prog (xV (Instr.fieldAt 27 (.pointer (some ⟨g, o, none⟩)) 3)) (.pointer (some ⟨g, o + 3, none⟩)) := Pu.ok fun w => by kernel_rfl
theorem a7e (a : Option Addr) (n c : Nat) : Pu Tryd.prog (xBuiltin .len #[25] 3 [false] [.slice a n c]) (.int .i64 (n : Int)) := U2 Tryd.underlying25 a n c
theorem a5I {g o : Nat} : Pu Tryd.prog (xV (Instr.fieldAt 27 (.pointer (some ⟨g, o, none⟩)) 2)) (.pointer (some ⟨g, o + 2, none⟩)) := Pu.ok fun w => by kernel_rfl
theorem a1v (a : Option Addr) (n c : Nat) : Pu Tryd.prog (xBuiltin .len #[45] 3 [false] [.slice a n c]) (.int .i64 (n : Int)) := U2 Tryd.underlying45 a n c
theorem a0D {g o : Nat} : Pu Tryd.prog (xV (Instr.fieldAt 49 (.pointer (some ⟨g, o, none⟩)) 3)) (.pointer (some ⟨g, o + 3, none⟩)) := Pu.ok fun w => by kernel_rfl
theorem a1d {g o : Nat} : Pu Tryd.prog (xV (Instr.fieldAt 49 (.pointer (some ⟨g, o, none⟩)) 2)) (.pointer (some ⟨g, o + 2, none⟩)) := Pu.ok fun w => by kernel_rfl
theorem a4c {g o : Nat} : Pu Tryd.prog (xV (Instr.fieldAt 49 (.pointer (some ⟨g, o, none⟩)) 0)) (.pointer (some ⟨g, o + 0, none⟩)) := Pu.ok fun w => by kernel_rfl
theorem b1V {g o : Nat} : Pu Tryd.prog (xV (Instr.fieldAt 49 (.pointer (some ⟨g, o, none⟩)) 1)) (.pointer (some ⟨g, o + 1, none⟩)) := Pu.ok fun w => by kernel_rfl
theorem a3M (a : Option Addr) (n c : Nat) : Pu Tryd.prog (xBuiltin .len #[46] 3 [false] [.slice a n c]) (.int .i64 (n : Int)) := U2 Tryd.underlying46 a n c
theorem a6q {a : Option Addr} {g o : Nat} (ha : a = some ⟨g, o, none⟩) (len cap : Nat) (k : IntKind) (i : Int) (h0 : 0 ≤ i) (h1 : i < len) : Pu Tryd.prog (xV (Instr.indexAt 46 (.slice a len cap) (.int k i))) (.pointer (some ⟨g, o + i.toNat * 3, none⟩)) := W9 Tryd.underlying46 Tryd.sizeOf55 ha len cap k i h0 h1
theorem c8K {g o : Nat} : Pu Tryd.prog (xV (Instr.fieldAt 55 (.pointer (some ⟨g, o, none⟩)) 0)) (.pointer (some ⟨g, o + 0, none⟩)) := Pu.ok fun w => by kernel_rfl
theorem O7 {a : Option Addr} {g o : Nat} (ha : a = some ⟨g, o, none⟩) (len cap : Nat) (k : IntKind) (i : Int) (h0 : 0 ≤ i) (h1 : i < len) : Pu Tryd.prog (xV (Instr.indexAt 45 (.slice a len cap) (.int k i))) (.pointer (some ⟨g, o + i.toNat * 1, none⟩)) := W9 Tryd.underlying45 Tryd.sizeOf2 ha len cap k i h0 h1
theorem c8L {g o : Nat} : Pu Tryd.prog (xV (Instr.fieldAt 55 (.pointer (some ⟨g, o, none⟩)) 1)) (.pointer (some ⟨g, o + 1, none⟩)) := Pu.ok fun w => by kernel_rfl
abbrev a5c (x : Int) : List Value := [(Value.int .i64 x)]
theorem b8b (x : Int) : (a5c x).length = 1 := rfl
theorem c8M (x : Int) : (a5c x).all (·.oneCell') = true := rfl
theorem e0k : Tryd.prog.info? 2 = some ((Tryd.prog.info? 2).getD default) := by kernel_rfl
theorem c2G {E : Pan} {w0 w : World} {ps : Nat → Prop} {H0 H : Hp} {Fs : List Frag} {K : Value → World → Prop} {s : Sl} {xs : List Int} {F : Frag} {t2 : Sl} {ys : List Int} {ks : List Bool} {ty : TypeId} (I : Inv w0 ps H0 H (F :: Fs) w) (hr : RowL 2 1 a5c s xs F) (hs : SrcO w a5c t2 ys) (hb : (xs.length + ys.length) * 9 ≤ 140737488355328) (h : ∀ (s' : Sl) (F' : Frag) (w' : World), RowL 2 1 a5c s' (xs ++ ys) F' → Inv w0 ps H0 H (F' :: Fs) w' → (∀ k, k < w.heap.size → (∀ p ∈ F, p.1 ≠ k) → w'.heap[k]? = w.heap[k]?) → K (.slice s'.a s'.n s'.c) w') : opK Tryd.prog E (xBuiltin .append #[45, 45] ty ks [.slice s.a s.n s.c, .slice t2.a t2.n t2.c]) w K :=
  b5l (bytes := 8) Tryd.underlying45 e0k (z := (Value.int .i64 0)) (by kernel_rfl) (by kernel_rfl) (by kernel_rfl) (by kernel_rfl) I hr hs hb h
theorem c7j (a0 : ByteArray) : Pu Tryd.prog (xV (Instr.build 58 #[(0, (Value.string a0))])) (.agg #[(Value.string a0), (Value.int .i64 0)]) := Pu.ok fun w => by kernel_rfl
abbrev m7 (x : j9) : List Value := [(Value.string x.d6), (Value.int .i64 x.E6)]
theorem c1J (x : j9) : (m7 x).length = 2 := rfl
theorem c1K (x : j9) : (m7 x).all (·.oneCell') = true := rfl
theorem e1x (X2 : ByteArray) (X3 : Int) (w : World) : (Instr.buildSlice 41 1 #[(0, (Value.agg #[(Value.string X2), (Value.int .i64 X3)]))]).run Tryd.prog w = .ok (.slice (some ⟨w.heap.size, 0, none⟩) 1 1) (w.alloc (.cells [(Value.string X2), (Value.int .i64 X3)].toArray 58)) := by kernel_rfl
abbrev i7 (x : u1) : List Value := [(Value.int .i64 x.b9), (Value.int .i64 x.fOp), (Value.slice x.j7.a x.j7.n x.j7.c), (Value.slice x.u5.a x.u5.n x.u5.c)]
abbrev g7 (x : r6) : List Value := [(Value.int .i64 x.b9), (Value.string x.d6), (Value.slice x.j7.a x.j7.n x.j7.c), (Value.slice x.s6.a x.s6.n x.s6.c), (Value.slice x.K3.a x.K3.n x.K3.c), (Value.slice x.H9.a x.H9.n x.H9.c)]
theorem c1L (x : r6) : (g7 x).length = 6 := rfl
theorem c1M (x : r6) : (g7 x).all (·.oneCell') = true := rfl
theorem c1N (a0a : Option Addr) (a0n a0c : Nat) (a1a : Option Addr) (a1n a1c : Nat) : Pu Tryd.prog (xV (Instr.build 44 #[(0, (Value.slice a0a a0n a0c)), (1, (Value.slice a1a a1n a1c))])) (.agg #[(Value.slice a0a a0n a0c), (Value.slice a1a a1n a1c)]) := Pu.ok fun w => by kernel_rfl
theorem a4d {g o : Nat} : Pu Tryd.prog (xV (Instr.fieldAt 49 (.pointer (some ⟨g, o, none⟩)) 4)) (.pointer (some ⟨g, o + 4, none⟩)) := Pu.ok fun w => by kernel_rfl
abbrev d9 (x : l7) : List Value := [(Value.int .i64 x.b9), (Value.int .i64 x.C4), (Value.string x.d6), (Value.slice x.A5.a x.A5.n x.A5.c)]
theorem a7v (x : l7) : (d9 x).length = 4 := rfl
theorem a7w (x : l7) : (d9 x).all (·.oneCell') = true := rfl
theorem e1y (X2 : Int) (X3 : Int) (a8A : ByteArray) (a0_3a : Option Addr) (a0_3n a0_3c : Nat) (c2H : Int) (c2I : Int) (e7t : ByteArray) (a1_3a : Option Addr) (a1_3n a1_3c : Nat) (w : World) : (Instr.buildSlice 22 2 #[(0, (Value.agg #[(Value.int .i64 X2), (Value.int .i64 X3), (Value.string a8A), (Value.slice a0_3a a0_3n a0_3c)])), (1, (Value.agg #[(Value.int .i64 c2H), (Value.int .i64 c2I), (Value.string e7t), (Value.slice a1_3a a1_3n a1_3c)]))]).run Tryd.prog w = .ok (.slice (some ⟨w.heap.size, 0, none⟩) 2 2) (w.alloc (.cells [(Value.int .i64 X2), (Value.int .i64 X3), (Value.string a8A), (Value.slice a0_3a a0_3n a0_3c), (Value.int .i64 c2H), (Value.int .i64 c2I), (Value.string e7t), (Value.slice a1_3a a1_3n a1_3c)].toArray 24)) := by kernel_rfl
theorem b0j (a0 : Int) (a1 : ByteArray) (a2a : Option Addr) (a2n a2c : Nat) : Pu Tryd.prog (xV (Instr.build 63 #[(0, (Value.int .i64 a0)), (1, (Value.string a1)), (2, (Value.slice a2a a2n a2c))])) (.agg #[(Value.int .i64 a0), (Value.string a1), (Value.slice a2a a2n a2c), (Value.slice none 0 0), (Value.slice none 0 0), (Value.slice none 0 0)]) := Pu.ok fun w => by kernel_rfl
theorem c7C (X2 : Int) (X3 : Int) (a8A : ByteArray) (a0_3a : Option Addr) (a0_3n a0_3c : Nat) (w : World) : (Instr.buildSlice 22 1 #[(0, (Value.agg #[(Value.int .i64 X2), (Value.int .i64 X3), (Value.string a8A), (Value.slice a0_3a a0_3n a0_3c)]))]).run Tryd.prog w = .ok (.slice (some ⟨w.heap.size, 0, none⟩) 1 1) (w.alloc (.cells [(Value.int .i64 X2), (Value.int .i64 X3), (Value.string a8A), (Value.slice a0_3a a0_3n a0_3c)].toArray 24)) := by kernel_rfl
theorem e1z (X2 : Int) (X3 : ByteArray) (a0_2a : Option Addr) (a0_2n a0_2c : Nat) (a0_3a : Option Addr) (a0_3n a0_3c : Nat) (a0_4a : Option Addr) (a0_4n a0_4c : Nat) (a0_5a : Option Addr) (a0_5n a0_5c : Nat) (c2H : Int) (c2I : ByteArray) (a1_2a : Option Addr) (a1_2n a1_2c : Nat) (a1_3a : Option Addr) (a1_3n a1_3c : Nat) (a1_4a : Option Addr) (a1_4n a1_4c : Nat) (a1_5a : Option Addr) (a1_5n a1_5c : Nat) (w : World) : (Instr.buildSlice 42 2 #[(0, (Value.agg #[(Value.int .i64 X2), (Value.string X3), (Value.slice a0_2a a0_2n a0_2c), (Value.slice a0_3a a0_3n a0_3c), (Value.slice a0_4a a0_4n a0_4c), (Value.slice a0_5a a0_5n a0_5c)])), (1, (Value.agg #[(Value.int .i64 c2H), (Value.string c2I), (Value.slice a1_2a a1_2n a1_2c), (Value.slice a1_3a a1_3n a1_3c), (Value.slice a1_4a a1_4n a1_4c), (Value.slice a1_5a a1_5n a1_5c)]))]).run Tryd.prog w = .ok (.slice (some ⟨w.heap.size, 0, none⟩) 2 2) (w.alloc (.cells [(Value.int .i64 X2), (Value.string X3), (Value.slice a0_2a a0_2n a0_2c), (Value.slice a0_3a a0_3n a0_3c), (Value.slice a0_4a a0_4n a0_4c), (Value.slice a0_5a a0_5n a0_5c), (Value.int .i64 c2H), (Value.string c2I), (Value.slice a1_2a a1_2n a1_2c), (Value.slice a1_3a a1_3n a1_3c), (Value.slice a1_4a a1_4n a1_4c), (Value.slice a1_5a a1_5n a1_5c)].toArray 63)) := by kernel_rfl
theorem a2U {g o : Nat} : Pu Tryd.prog (xV (Instr.fieldAt 49 (.pointer (some ⟨g, o, none⟩)) 5)) (.pointer (some ⟨g, o + 5, none⟩)) := Pu.ok fun w => by kernel_rfl
theorem b3H (a : Option Addr) (n c : Nat) : Pu Tryd.prog (xBuiltin .len #[47] 3 [false] [.slice a n c]) (.int .i64 (n : Int)) := U2 Tryd.underlying47 a n c
theorem c2J {a : Option Addr} {g o : Nat} (ha : a = some ⟨g, o, none⟩) (len cap : Nat) (k : IntKind) (i : Int) (h0 : 0 ≤ i) (h1 : i < len) : Pu Tryd.prog (xV (Instr.indexAt 47 (.slice a len cap) (.int k i))) (.pointer (some ⟨g, o + i.toNat * 1, none⟩)) := W9 Tryd.underlying47 Tryd.sizeOf45 ha len cap k i h0 h1
theorem c1O (a0 : Int) (a3a : Option Addr) (a3n a3c : Nat) : Pu Tryd.prog (xV (Instr.build 24 #[(0, (Value.int .i64 a0)), (3, (Value.slice a3a a3n a3c))])) (.agg #[(Value.int .i64 a0), (Value.int .i64 0), (Value.string ⟨#[]⟩), (Value.slice a3a a3n a3c)]) := Pu.ok fun w => by kernel_rfl
theorem c1P (a0 : Int) (a2 : ByteArray) : Pu Tryd.prog (xV (Instr.build 24 #[(0, (Value.int .i64 a0)), (2, (Value.string a2))])) (.agg #[(Value.int .i64 a0), (Value.int .i64 0), (Value.string a2), (Value.slice none 0 0)]) := Pu.ok fun w => by kernel_rfl
theorem a1C {a : Option Addr} {g o : Nat} (ha : a = some ⟨g, o, none⟩) (len cap : Nat) (k : IntKind) (i : Int) (h0 : 0 ≤ i) (h1 : i < len) : Pu Tryd.prog (xV (Instr.indexAt 22 (.slice a len cap) (.int k i))) (.pointer (some ⟨g, o + i.toNat * 4, none⟩)) := W9 Tryd.underlying22 Tryd.sizeOf24 ha len cap k i h0 h1
theorem a7O {g o : Nat} : Pu Tryd.prog (xV (Instr.fieldAt 24 (.pointer (some ⟨g, o, none⟩)) 1)) (.pointer (some ⟨g, o + 1, none⟩)) := Pu.ok fun w => by kernel_rfl
theorem a4e {g o : Nat} : Pu Tryd.prog (xV (Instr.fieldAt 24 (.pointer (some ⟨g, o, none⟩)) 2)) (.pointer (some ⟨g, o + 2, none⟩)) := Pu.ok fun w => by kernel_rfl
theorem a7P {g o : Nat} : Pu Tryd.prog (xV (Instr.fieldAt 27 (.pointer (some ⟨g, o, none⟩)) 1)) (.pointer (some ⟨g, o + 1, none⟩)) := Pu.ok fun w => by kernel_rfl
theorem a2V {a : Option Addr} {g o : Nat} (ha : a = some ⟨g, o, none⟩) (len cap : Nat) (k : IntKind) (i : Int) (h0 : 0 ≤ i) (h1 : i < len) : Pu Tryd.prog (xV (Instr.indexAt 25 (.slice a len cap) (.int k i))) (.pointer (some ⟨g, o + i.toNat * 4, none⟩)) := W9 Tryd.underlying25 Tryd.sizeOf27 ha len cap k i h0 h1
theorem b3t (a0 : Int) (a1 : Int) : Pu Tryd.prog (xV (Instr.build 24 #[(0, (Value.int .i64 a0)), (1, (Value.int .i64 a1))])) (.agg #[(Value.int .i64 a0), (Value.int .i64 a1), (Value.string ⟨#[]⟩), (Value.slice none 0 0)]) := Pu.ok fun w => by kernel_rfl
theorem e7u (d : Nat) (a0 b0 : Bool) (a1 b1 : Int) (a2 b2 : Bool) (w : World) : (Op.equalIn (d + 2) 55 (.agg #[(Value.bool a0), (Value.int .i64 a1), (Value.bool a2)]) (.agg #[(Value.bool b0), (Value.int .i64 b1), (Value.bool b2)])).run Tryd.prog w = .ok (decide (a0 = b0 ∧ a1 = b1 ∧ a2 = b2)) w := by
  have u4 := Tryd.underlying4
  have i4 := Tryd.isAgg4
  have s4 := Tryd.sizeOf4
  have u2 := Tryd.underlying2
  have i2 := Tryd.isAgg2
  have s2 := Tryd.sizeOf2
  have hS : Tryd.prog.underlying 55 = some (.struct (Tryd.prog.fieldsOf 55)) := by kernel_rfl
  rw [run_equalIn_agg w (d + 1) 55 _ _ hS (by kernel_rfl)]
  simp only [Program.fieldsOf, Tryd.underlying55]
  go_simp
  try simp only [b6A]
  by_cases h0 : a0 = b0
  · by_cases h1 : a1 = b1
    · by_cases h2 : a2 = b2
      · simp [h0, h1, h2]
      · simp [h0, h1, h2]
    · simp [h0, h1]
  · simp [h0]
theorem c2K (x y : Operand) (a0 b0 : Bool) (a1 b1 : Int) (a2 b2 : Bool) : Pu Tryd.prog (xBin .neq 55 x y (.agg #[(Value.bool a0), (Value.int .i64 a1), (Value.bool a2)]) (.agg #[(Value.bool b0), (Value.int .i64 b1), (Value.bool b2)])) (.bool (!decide (a0 = b0 ∧ a1 = b1 ∧ a2 = b2))) := by
  refine Pu.ok (s := do eqGuard .neq 55 x y (.agg #[(Value.bool a0), (Value.int .i64 a1), (Value.bool a2)]) (.agg #[(Value.bool b0), (Value.int .i64 b1), (Value.bool b2)]); binOp .neq 55 (.agg #[(Value.bool a0), (Value.int .i64 a1), (Value.bool a2)]) (.agg #[(Value.bool b0), (Value.int .i64 b1), (Value.bool b2)])) fun w => ?_
  rw [Sem.run_bind, run_eqGuard_agg w _ _ _ _ _ _ (by kernel_rfl), Result.andThen_ok, run_neq_struct, show (10000 : Nat) = 9998 + 2 from rfl, e7u]
  rfl
theorem d5v (x y : Operand) (a b : Bool) : Pu Tryd.prog (xBin .eql 4 x y (.bool a) (.bool b)) (.bool (a == b)) := e7l _ _ _ a b Tryd.underlying4
theorem b1W (x y : Operand) (a b : Bool) : Pu Tryd.prog (xBin .neq 4 x y (.bool a) (.bool b)) (.bool (a != b)) := e7m _ _ _ a b Tryd.underlying4
theorem b1X {g o : Nat} : Pu Tryd.prog (xV (Instr.fieldAt 44 (.pointer (some ⟨g, o, none⟩)) 1)) (.pointer (some ⟨g, o + 1, none⟩)) := Pu.ok fun w => by kernel_rfl
theorem a4K {g o : Nat} : Pu Tryd.prog (xV (Instr.fieldAt 106 (.pointer (some ⟨g, o, none⟩)) 2)) (.pointer (some ⟨g, o + 2, none⟩)) := Pu.ok fun w => by kernel_rfl
theorem b6q {g o : Nat} : Pu Tryd.prog (xV (Instr.fieldAt 106 (.pointer (some ⟨g, o, none⟩)) 1)) (.pointer (some ⟨g, o + 1, none⟩)) := Pu.ok fun w => by kernel_rfl
theorem b0C {g o : Nat} : Pu Tryd.prog (xV (Instr.fieldAt 106 (.pointer (some ⟨g, o, none⟩)) 0)) (.pointer (some ⟨g, o + 0, none⟩)) := Pu.ok fun w => by kernel_rfl
theorem a7Q {g o : Nat} : Pu Tryd.prog (xV (Instr.fieldAt 44 (.pointer (some ⟨g, o, none⟩)) 0)) (.pointer (some ⟨g, o + 0, none⟩)) := Pu.ok fun w => by kernel_rfl
theorem c8N  : Pu Tryd.prog (xV (Instr.build 114 #[])) (.agg #[(Value.slice none 0 0)]) := Pu.ok fun w => by kernel_rfl
abbrev p6 (x : b8) : List Value := [(Value.string x.fname), (Value.int .i64 x.fas)]
theorem a3A (x : b8) : (p6 x).length = 2 := rfl
theorem a3B (x : b8) : (p6 x).all (·.oneCell') = true := rfl
theorem a5y (a : Option Addr) (n c : Nat) : Pu Tryd.prog (xBuiltin .len #[42] 3 [false] [.slice a n c]) (.int .i64 (n : Int)) := U2 Tryd.underlying42 a n c
theorem b6E {a : Option Addr} {g o : Nat} (ha : a = some ⟨g, o, none⟩) (len cap : Nat) (k : IntKind) (i : Int) (h0 : 0 ≤ i) (h1 : i < len) : Pu Tryd.prog (xV (Instr.indexAt 42 (.slice a len cap) (.int k i))) (.pointer (some ⟨g, o + i.toNat * 6, none⟩)) := W9 Tryd.underlying42 Tryd.sizeOf63 ha len cap k i h0 h1
theorem a5J {g o : Nat} : Pu Tryd.prog (xV (Instr.fieldAt 63 (.pointer (some ⟨g, o, none⟩)) 0)) (.pointer (some ⟨g, o + 0, none⟩)) := Pu.ok fun w => by kernel_rfl
theorem a0E {g o : Nat} : Pu Tryd.prog (xV (Instr.fieldAt 114 (.pointer (some ⟨g, o, none⟩)) 0)) (.pointer (some ⟨g, o + 0, none⟩)) := Pu.ok fun w => by kernel_rfl
theorem a2d {g o : Nat} : Pu Tryd.prog (xV (Instr.fieldAt 63 (.pointer (some ⟨g, o, none⟩)) 1)) (.pointer (some ⟨g, o + 1, none⟩)) := Pu.ok fun w => by kernel_rfl
theorem a4f (a0 : ByteArray) (a1 : Int) : Pu Tryd.prog (xV (Instr.build 117 #[(0, (Value.string a0)), (1, (Value.int .i64 a1))])) (.agg #[(Value.string a0), (Value.int .i64 a1)]) := Pu.ok fun w => by kernel_rfl
theorem b1Y (X2 : ByteArray) (X3 : Int) (w : World) : (Instr.buildSlice 112 1 #[(0, (Value.agg #[(Value.string X2), (Value.int .i64 X3)]))]).run Tryd.prog w = .ok (.slice (some ⟨w.heap.size, 0, none⟩) 1 1) (w.alloc (.cells [(Value.string X2), (Value.int .i64 X3)].toArray 117)) := by kernel_rfl
theorem e1A : Tryd.prog.info? 117 = some ((Tryd.prog.info? 117).getD default) := by kernel_rfl
theorem b5q {E : Pan} {w0 w : World} {ps : Nat → Prop} {H0 H : Hp} {Fs : List Frag} {K : Value → World → Prop} {s : Sl} {xs : List b8} {F : Frag} {t2 : Sl} {ys : List b8} {ks : List Bool} {ty : TypeId} (I : Inv w0 ps H0 H (F :: Fs) w) (hr : RowL 117 2 p6 s xs F) (hs : SrcO w p6 t2 ys) (hb : (xs.length + ys.length) * 25 ≤ 140737488355328) (h : ∀ (s' : Sl) (F' : Frag) (w' : World), RowL 117 2 p6 s' (xs ++ ys) F' → Inv w0 ps H0 H (F' :: Fs) w' → (∀ k, k < w.heap.size → (∀ p ∈ F, p.1 ≠ k) → w'.heap[k]? = w.heap[k]?) → K (.slice s'.a s'.n s'.c) w') : opK Tryd.prog E (xBuiltin .append #[112, 112] ty ks [.slice s.a s.n s.c, .slice t2.a t2.n t2.c]) w K :=
  b5l (bytes := 24) Tryd.underlying112 e1A (z := (Value.agg #[(Value.string ⟨#[]⟩), (Value.int .i64 0)])) (by kernel_rfl) (by kernel_rfl) (by kernel_rfl) (by kernel_rfl) I hr hs hb h
theorem a7R {g o : Nat} : Pu Tryd.prog (xV (Instr.fieldAt 63 (.pointer (some ⟨g, o, none⟩)) 3)) (.pointer (some ⟨g, o + 3, none⟩)) := Pu.ok fun w => by kernel_rfl
theorem a5K {g o : Nat} : Pu Tryd.prog (xV (Instr.fieldAt 63 (.pointer (some ⟨g, o, none⟩)) 2)) (.pointer (some ⟨g, o + 2, none⟩)) := Pu.ok fun w => by kernel_rfl
theorem a5L {g o : Nat} : Pu Tryd.prog (xV (Instr.fieldAt 63 (.pointer (some ⟨g, o, none⟩)) 4)) (.pointer (some ⟨g, o + 4, none⟩)) := Pu.ok fun w => by kernel_rfl
theorem a5M {g o : Nat} : Pu Tryd.prog (xV (Instr.fieldAt 63 (.pointer (some ⟨g, o, none⟩)) 5)) (.pointer (some ⟨g, o + 5, none⟩)) := Pu.ok fun w => by kernel_rfl
theorem d2f {a : Option Addr} {g o : Nat} (ha : a = some ⟨g, o, none⟩) (len cap : Nat) (k : IntKind) (i : Int) (h0 : 0 ≤ i) (h1 : i < len) : Pu Tryd.prog (xV (Instr.indexAt 112 (.slice a len cap) (.int k i))) (.pointer (some ⟨g, o + i.toNat * 2, none⟩)) := W9 Tryd.underlying112 Tryd.sizeOf117 ha len cap k i h0 h1
theorem b0D {g o : Nat} : Pu Tryd.prog (xV (Instr.fieldAt 117 (.pointer (some ⟨g, o, none⟩)) 0)) (.pointer (some ⟨g, o + 0, none⟩)) := Pu.ok fun w => by kernel_rfl
theorem c7k {g o : Nat} : Pu Tryd.prog (xV (Instr.fieldAt 117 (.pointer (some ⟨g, o, none⟩)) 1)) (.pointer (some ⟨g, o + 1, none⟩)) := Pu.ok fun w => by kernel_rfl
theorem c2L (X2 : Int) (X3 : Int) (a8A : ByteArray) (a0_3a : Option Addr) (a0_3n a0_3c : Nat) : Pu Tryd.prog (xV (Instr.build 123 #[(0, (Value.agg #[(Value.int .i64 X2), (Value.int .i64 X3), (Value.string a8A), (Value.slice a0_3a a0_3n a0_3c)]))])) (.agg #[(Value.int .i64 X2), (Value.int .i64 X3), (Value.string a8A), (Value.slice a0_3a a0_3n a0_3c)]) := Pu.ok fun w => by kernel_rfl
theorem b1c (x : E7) : Pu Tryd.prog (xV (Instr.makeInterface 123 (.agg #[(Value.int .i64 x.m5.b9), (Value.int .i64 x.m5.C4), (Value.string x.m5.d6), (Value.slice x.m5.A5.a x.m5.A5.n x.m5.A5.c)]))) (u6 (a8.D1 x)) := Pu.ok fun w => rfl
abbrev o7 (x : a8) : List Value := [(u6 x)]
theorem N5 (x : a8) : (o7 x).length = 1 := rfl
theorem Q3 (x : a8) : (o7 x).all (·.oneCell') = true := c1I x
theorem b1Z (a0 : a8) (w : World) : (Instr.buildSlice 124 1 #[(0, (u6 a0))]).run Tryd.prog w = .ok (.slice (some ⟨w.heap.size, 0, none⟩) 1 1) (w.alloc (.cells [(u6 a0)].toArray 152)) := by cases a0 <;> kernel_rfl
theorem c2M (X2 : Int) (X3 : Int) (a0_2a : Option Addr) (a0_2n a0_2c : Nat) (a0_3a : Option Addr) (a0_3n a0_3c : Nat) : Pu Tryd.prog (xV (Instr.build 138 #[(0, (Value.agg #[(Value.int .i64 X2), (Value.int .i64 X3), (Value.slice a0_2a a0_2n a0_2c), (Value.slice a0_3a a0_3n a0_3c)]))])) (.agg #[(Value.int .i64 X2), (Value.int .i64 X3), (Value.slice a0_2a a0_2n a0_2c), (Value.slice a0_3a a0_3n a0_3c)]) := Pu.ok fun w => by kernel_rfl
theorem b9J (x : L4) : Pu Tryd.prog (xV (Instr.makeInterface 138 (.agg #[(Value.int .i64 x.k5.b9), (Value.int .i64 x.k5.fOp), (Value.slice x.k5.j7.a x.k5.j7.n x.k5.j7.c), (Value.slice x.k5.u5.a x.k5.u5.n x.k5.u5.c)]))) (u6 (a8.J0 x)) := Pu.ok fun w => rfl
theorem b8c (k : IntKind) (n : Int) : Pu Tryd.prog (xV (convert 2 96 (.int k n))) (.int .u64 (IntKind.wrap .u64 n)) := Pu.ok fun w => run_convert_int (P := Tryd.prog) (w := w) 2 96 k n (by rw [Tryd.underlying2]; rfl) Tryd.underlying96
theorem c2N (a0a : Option Addr) (a0n a0c : Nat) (a1a : Option Addr) (a1n a1c : Nat) (w : World) : (Instr.buildSlice 174 2 #[(0, (Value.slice a0a a0n a0c)), (1, (Value.slice a1a a1n a1c))]).run Tryd.prog w = .ok (.slice (some ⟨w.heap.size, 0, none⟩) 2 2) (w.alloc (.cells [(Value.slice a0a a0n a0c), (Value.slice a1a a1n a1c)].toArray 124)) := by kernel_rfl
theorem b0k (a : Option Addr) (n c : Nat) : Pu Tryd.prog (xBuiltin .len #[41] 3 [false] [.slice a n c]) (.int .i64 (n : Int)) := U2 Tryd.underlying41 a n c
theorem b2a {a : Option Addr} {g o : Nat} (ha : a = some ⟨g, o, none⟩) (len cap : Nat) (k : IntKind) (i : Int) (h0 : 0 ≤ i) (h1 : i < len) : Pu Tryd.prog (xV (Instr.indexAt 41 (.slice a len cap) (.int k i))) (.pointer (some ⟨g, o + i.toNat * 2, none⟩)) := W9 Tryd.underlying41 Tryd.sizeOf58 ha len cap k i h0 h1
theorem c8O  : Pu Tryd.prog (xV (Instr.build 106 #[])) (.agg #[(Value.int .i64 0), (Value.int .i64 0), (Value.int .i64 0), (Value.bool false), (Value.bool false), (Value.slice none 0 0)]) := Pu.ok fun w => by kernel_rfl
abbrev C9 (x : ByteArray) : List Value := [(Value.string x)]
theorem b6r (x : ByteArray) : (C9 x).length = 1 := rfl
theorem b6s (x : ByteArray) : (C9 x).all (·.oneCell') = true := rfl
theorem a7S (a : Option Addr) (n c : Nat) : Pu Tryd.prog (xBuiltin .len #[124] 3 [false] [.slice a n c]) (.int .i64 (n : Int)) := U2 Tryd.underlying124 a n c
theorem d2g {a : Option Addr} {g o : Nat} (ha : a = some ⟨g, o, none⟩) (len cap : Nat) (k : IntKind) (i : Int) (h0 : 0 ≤ i) (h1 : i < len) : Pu Tryd.prog (xV (Instr.indexAt 124 (.slice a len cap) (.int k i))) (.pointer (some ⟨g, o + i.toNat * 1, none⟩)) := W9 Tryd.underlying124 Tryd.sizeOf152 ha len cap k i h0 h1
theorem b0E {g o : Nat} : Pu Tryd.prog (xV (Instr.fieldAt 106 (.pointer (some ⟨g, o, none⟩)) 3)) (.pointer (some ⟨g, o + 3, none⟩)) := Pu.ok fun w => by kernel_rfl
theorem b0F {g o : Nat} : Pu Tryd.prog (xV (Instr.fieldAt 106 (.pointer (some ⟨g, o, none⟩)) 4)) (.pointer (some ⟨g, o + 4, none⟩)) := Pu.ok fun w => by kernel_rfl
theorem b0G {g o : Nat} : Pu Tryd.prog (xV (Instr.fieldAt 106 (.pointer (some ⟨g, o, none⟩)) 5)) (.pointer (some ⟨g, o + 5, none⟩)) := Pu.ok fun w => by kernel_rfl
theorem d5w (a0 : ByteArray) (w : World) : (Instr.buildSlice 104 1 #[(0, (Value.string a0))]).run Tryd.prog w = .ok (.slice (some ⟨w.heap.size, 0, none⟩) 1 1) (w.alloc (.cells [(Value.string a0)].toArray 9)) := by kernel_rfl
theorem g1q : Tryd.prog.info? 9 = some ((Tryd.prog.info? 9).getD default) := by kernel_rfl
theorem e1B {E : Pan} {w0 w : World} {ps : Nat → Prop} {H0 H : Hp} {Fs : List Frag} {K : Value → World → Prop} {s : Sl} {xs : List ByteArray} {F : Frag} {t2 : Sl} {ys : List ByteArray} {ks : List Bool} {ty : TypeId} (I : Inv w0 ps H0 H (F :: Fs) w) (hr : RowL 9 1 C9 s xs F) (hs : SrcO w C9 t2 ys) (hb : (xs.length + ys.length) * 17 ≤ 140737488355328) (h : ∀ (s' : Sl) (F' : Frag) (w' : World), RowL 9 1 C9 s' (xs ++ ys) F' → Inv w0 ps H0 H (F' :: Fs) w' → (∀ k, k < w.heap.size → (∀ p ∈ F, p.1 ≠ k) → w'.heap[k]? = w.heap[k]?) → K (.slice s'.a s'.n s'.c) w') : opK Tryd.prog E (xBuiltin .append #[104, 104] ty ks [.slice s.a s.n s.c, .slice t2.a t2.n t2.c]) w K :=
  b5l (bytes := 16) Tryd.underlying104 g1q (z := (Value.string ⟨#[]⟩)) (by kernel_rfl) (by kernel_rfl) (by kernel_rfl) (by kernel_rfl) I hr hs hb h
theorem a3E : Pu Tryd.prog (xV (Instr.build 171 #[(0, (Value.func (.func 123) #[] #[])), (1, (Value.func (.func 124) #[] #[])), (2, (Value.func (.func 125) #[] #[])), (3, (Value.func (.func 126) #[] #[])), (4, (Value.func (.func 127) #[] #[])), (5, (Value.func (.func 128) #[] #[])), (6, (Value.func (.func 129) #[] #[]))])) (.agg #[(Value.func (.func 123) #[] #[]), (Value.func (.func 124) #[] #[]), (Value.func (.func 125) #[] #[]), (Value.func (.func 126) #[] #[]), (Value.func (.func 127) #[] #[]), (Value.func (.func 128) #[] #[]), (Value.func (.func 129) #[] #[])]) := Pu.ok fun w => by kernel_rfl
theorem S5 (k : IntKind) (i : Int) (h0 : 0 ≤ i) (h1 : i < 7) : Pu Tryd.prog (xV (Instr.index 171 (.agg #[(Value.func (.func 123) #[] #[]), (Value.func (.func 124) #[] #[]), (Value.func (.func 125) #[] #[]), (Value.func (.func 126) #[] #[]), (Value.func (.func 127) #[] #[]), (Value.func (.func 128) #[] #[]), (Value.func (.func 129) #[] #[])]) (.int k i))) (([(Value.func (.func 123) #[] #[]), (Value.func (.func 124) #[] #[]), (Value.func (.func 125) #[] #[]), (Value.func (.func 126) #[] #[]), (Value.func (.func 127) #[] #[]), (Value.func (.func 128) #[] #[]), (Value.func (.func 129) #[] #[])] : List Value).getD i.toNat undef) := by
  obtain rfl | rfl | rfl | rfl | rfl | rfl | rfl := (by omega : i = 0 ∨ i = 1 ∨ i = 2 ∨ i = 3 ∨ i = 4 ∨ i = 5 ∨ i = 6)
  · exact Pu.ok fun w => by kernel_rfl
  · exact Pu.ok fun w => by kernel_rfl
  · exact Pu.ok fun w => by kernel_rfl
  · exact Pu.ok fun w => by kernel_rfl
  · exact Pu.ok fun w => by kernel_rfl
  · exact Pu.ok fun w => by kernel_rfl
  · exact Pu.ok fun w => by kernel_rfl
theorem a7T {g o : Nat} : Pu Tryd.prog (xV (Instr.fieldAt 90 (.pointer (some ⟨g, o, none⟩)) 4)) (.pointer (some ⟨g, o + 4, none⟩)) := Pu.ok fun w => by kernel_rfl
theorem b2b {g o : Nat} : Pu Tryd.prog (xV (Instr.fieldAt 90 (.pointer (some ⟨g, o, none⟩)) 0)) (.pointer (some ⟨g, o + 0, none⟩)) := Pu.ok fun w => by kernel_rfl
theorem c1Q (a0 : Int) (a1 : Int) : Pu Tryd.prog (xV (Instr.build 93 #[(0, (Value.int .i64 a0)), (1, (Value.int .i64 a1))])) (.agg #[(Value.int .i64 a0), (Value.int .i64 a1)]) := Pu.ok fun w => by kernel_rfl
theorem b2c {g o : Nat} : Pu Tryd.prog (xV (Instr.fieldAt 90 (.pointer (some ⟨g, o, none⟩)) 1)) (.pointer (some ⟨g, o + 1, none⟩)) := Pu.ok fun w => by kernel_rfl
theorem b8d (a : Option Addr) (n c : Nat) : Pu Tryd.prog (xBuiltin .len #[174] 3 [false] [.slice a n c]) (.int .i64 (n : Int)) := U2 Tryd.underlying174 a n c
theorem c1p {a : Option Addr} {g o : Nat} (ha : a = some ⟨g, o, none⟩) (len cap : Nat) (k : IntKind) (i : Int) (h0 : 0 ≤ i) (h1 : i < len) : Pu Tryd.prog (xV (Instr.indexAt 174 (.slice a len cap) (.int k i))) (.pointer (some ⟨g, o + i.toNat * 1, none⟩)) := W9 Tryd.underlying174 Tryd.sizeOf124 ha len cap k i h0 h1
theorem d2h (s : ByteArray) : Pu Tryd.prog (xV (Instr.makeInterface 9 (.string s))) (.iface 9 (.string s)) := Pu.ok fun w => by kernel_rfl
theorem c7D : Tryd.prog.info? 152 = some ((Tryd.prog.info? 152).getD default) := by kernel_rfl
theorem b1d {E : Pan} {w0 w : World} {ps : Nat → Prop} {H0 H : Hp} {Fs : List Frag} {K : Value → World → Prop} {s : Sl} {xs : List a8} {F : Frag} {t2 : Sl} {ys : List a8} {ks : List Bool} {ty : TypeId} (I : Inv w0 ps H0 H (F :: Fs) w) (hr : RowL 152 1 o7 s xs F) (hs : SrcO w o7 t2 ys) (hb : (xs.length + ys.length) * 17 ≤ 140737488355328) (h : ∀ (s' : Sl) (F' : Frag) (w' : World), RowL 152 1 o7 s' (xs ++ ys) F' → Inv w0 ps H0 H (F' :: Fs) w' → (∀ k, k < w.heap.size → (∀ p ∈ F, p.1 ≠ k) → w'.heap[k]? = w.heap[k]?) → K (.slice s'.a s'.n s'.c) w') : opK Tryd.prog E (xBuiltin .append #[124, 124] ty ks [.slice s.a s.n s.c, .slice t2.a t2.n t2.c]) w K :=
  b5l (bytes := 16) Tryd.underlying124 c7D (z := Value.nilIface) (by kernel_rfl) (by kernel_rfl) (by kernel_rfl) (by kernel_rfl) I hr hs hb h
theorem c2O (X2 : ByteArray) (X3 : Int) : Pu Tryd.prog (xV (Instr.build 177 #[(0, (Value.agg #[(Value.string X2), (Value.int .i64 X3)]))])) (.agg #[(Value.string X2), (Value.int .i64 X3)]) := Pu.ok fun w => by kernel_rfl
theorem b9K (x : O5) : Pu Tryd.prog (xV (Instr.makeInterface 177 (.agg #[(Value.string x.O6.d6), (Value.int .i64 x.O6.E6)]))) (u6 (a8.G5 x)) := Pu.ok fun w => rfl
theorem c2P (X2 : Int) (X3 : ByteArray) (a0_2a : Option Addr) (a0_2n a0_2c : Nat) (a0_3a : Option Addr) (a0_3n a0_3c : Nat) (a0_4a : Option Addr) (a0_4n a0_4c : Nat) (a0_5a : Option Addr) (a0_5n a0_5c : Nat) : Pu Tryd.prog (xV (Instr.build 179 #[(0, (Value.agg #[(Value.int .i64 X2), (Value.string X3), (Value.slice a0_2a a0_2n a0_2c), (Value.slice a0_3a a0_3n a0_3c), (Value.slice a0_4a a0_4n a0_4c), (Value.slice a0_5a a0_5n a0_5c)]))])) (.agg #[(Value.int .i64 X2), (Value.string X3), (Value.slice a0_2a a0_2n a0_2c), (Value.slice a0_3a a0_3n a0_3c), (Value.slice a0_4a a0_4n a0_4c), (Value.slice a0_5a a0_5n a0_5c)]) := Pu.ok fun w => by kernel_rfl
theorem b9L (x : L5) : Pu Tryd.prog (xV (Instr.makeInterface 179 (.agg #[(Value.int .i64 x.d8.b9), (Value.string x.d8.d6), (Value.slice x.d8.j7.a x.d8.j7.n x.d8.j7.c), (Value.slice x.d8.s6.a x.d8.s6.n x.d8.s6.c), (Value.slice x.d8.K3.a x.d8.K3.n x.d8.K3.c), (Value.slice x.d8.H9.a x.d8.H9.n x.d8.H9.c)]))) (u6 (a8.D7 x)) := Pu.ok fun w => rfl
theorem a2W {g o : Nat} : Pu Tryd.prog (xV (Instr.fieldAt 58 (.pointer (some ⟨g, o, none⟩)) 1)) (.pointer (some ⟨g, o + 1, none⟩)) := Pu.ok fun w => by kernel_rfl
theorem c1R (x : a8) : Pu Tryd.prog (xV (Instr.typeAssert (u6 x) 152 177 true)) (.tuple #[(Value.agg #[(Value.string ((((x.S6)).O6).d6)), (Value.int .i64 ((((x.S6)).O6).E6))]), .bool (x.a3Z)]) := by
  cases x <;> exact Pu.ok fun w => by kernel_rfl
theorem b0H {g o : Nat} : Pu Tryd.prog (xV (Instr.fieldAt 177 (.pointer (some ⟨g, o, none⟩)) 0)) (.pointer (some ⟨g, o + 0, none⟩)) := Pu.ok fun w => by kernel_rfl
theorem a0F {g o : Nat} : Pu Tryd.prog (xV (Instr.fieldAt 58 (.pointer (some ⟨g, o, none⟩)) 0)) (.pointer (some ⟨g, o + 0, none⟩)) := Pu.ok fun w => by kernel_rfl
theorem c1S (x : a8) : Pu Tryd.prog (xV (Instr.typeAssert (u6 x) 152 179 true)) (.tuple #[(Value.agg #[(Value.int .i64 ((((x.i6)).d8).b9)), (Value.string ((((x.i6)).d8).d6)), (Value.slice ((((x.i6)).d8).j7).a ((((x.i6)).d8).j7).n ((((x.i6)).d8).j7).c), (Value.slice ((((x.i6)).d8).s6).a ((((x.i6)).d8).s6).n ((((x.i6)).d8).s6).c), (Value.slice ((((x.i6)).d8).K3).a ((((x.i6)).d8).K3).n ((((x.i6)).d8).K3).c), (Value.slice ((((x.i6)).d8).H9).a ((((x.i6)).d8).H9).n ((((x.i6)).d8).H9).c)]), .bool (x.a4a)]) := by
  cases x <;> exact Pu.ok fun w => by kernel_rfl
theorem K5 {g o : Nat} : Pu Tryd.prog (xV (Instr.fieldAt 179 (.pointer (some ⟨g, o, none⟩)) 0)) (.pointer (some ⟨g, o + 0, none⟩)) := Pu.ok fun w => by kernel_rfl
theorem c1T (x : a8) : Pu Tryd.prog (xV (Instr.typeAssert (u6 x) 152 123 true)) (.tuple #[(Value.agg #[(Value.int .i64 ((((x.p8)).m5).b9)), (Value.int .i64 ((((x.p8)).m5).C4)), (Value.string ((((x.p8)).m5).d6)), (Value.slice ((((x.p8)).m5).A5).a ((((x.p8)).m5).A5).n ((((x.p8)).m5).A5).c)]), .bool (x.a3Y)]) := by
  cases x <;> exact Pu.ok fun w => by kernel_rfl
theorem W8 {g o : Nat} : Pu Tryd.prog (xV (Instr.fieldAt 123 (.pointer (some ⟨g, o, none⟩)) 0)) (.pointer (some ⟨g, o + 0, none⟩)) := Pu.ok fun w => by kernel_rfl
theorem c7E (a0 : Int) (w : World) : (Instr.buildSlice 45 1 #[(0, (Value.int .i64 a0))]).run Tryd.prog w = .ok (.slice (some ⟨w.heap.size, 0, none⟩) 1 1) (w.alloc (.cells [(Value.int .i64 a0)].toArray 2)) := by kernel_rfl
theorem a7U {g o : Nat} : Pu Tryd.prog (xV (Instr.fieldAt 90 (.pointer (some ⟨g, o, none⟩)) 2)) (.pointer (some ⟨g, o + 2, none⟩)) := Pu.ok fun w => by kernel_rfl
theorem a5N {g o : Nat} : Pu Tryd.prog (xV (Instr.fieldAt 90 (.pointer (some ⟨g, o, none⟩)) 3)) (.pointer (some ⟨g, o + 3, none⟩)) := Pu.ok fun w => by kernel_rfl
theorem c1U (a0 : Bool) (a1 : Int) : Pu Tryd.prog (xV (Instr.build 55 #[(0, (Value.bool a0)), (1, (Value.int .i64 a1))])) (.agg #[(Value.bool a0), (Value.int .i64 a1), (Value.bool false)]) := Pu.ok fun w => by kernel_rfl
abbrev B3 (x : F7) : List Value := [(Value.bool x.a0Z), (Value.int .i64 x.C4), (Value.bool x.a7M)]
theorem a6r (x : F7) : (B3 x).length = 3 := rfl
theorem a6s (x : F7) : (B3 x).all (·.oneCell') = true := rfl
theorem c7F (X2 : Bool) (X3 : Int) (a8A : Bool) (w : World) : (Instr.buildSlice 46 1 #[(0, (Value.agg #[(Value.bool X2), (Value.int .i64 X3), (Value.bool a8A)]))]).run Tryd.prog w = .ok (.slice (some ⟨w.heap.size, 0, none⟩) 1 1) (w.alloc (.cells [(Value.bool X2), (Value.int .i64 X3), (Value.bool a8A)].toArray 55)) := by kernel_rfl
theorem e7v : Tryd.prog.info? 55 = some ((Tryd.prog.info? 55).getD default) := by kernel_rfl
theorem d2i {E : Pan} {w0 w : World} {ps : Nat → Prop} {H0 H : Hp} {Fs : List Frag} {K : Value → World → Prop} {s : Sl} {xs : List F7} {F : Frag} {t2 : Sl} {ys : List F7} {ks : List Bool} {ty : TypeId} (I : Inv w0 ps H0 H (F :: Fs) w) (hr : RowL 55 3 B3 s xs F) (hs : SrcO w B3 t2 ys) (hb : (xs.length + ys.length) * 25 ≤ 140737488355328) (h : ∀ (s' : Sl) (F' : Frag) (w' : World), RowL 55 3 B3 s' (xs ++ ys) F' → Inv w0 ps H0 H (F' :: Fs) w' → (∀ k, k < w.heap.size → (∀ p ∈ F, p.1 ≠ k) → w'.heap[k]? = w.heap[k]?) → K (.slice s'.a s'.n s'.c) w') : opK Tryd.prog E (xBuiltin .append #[46, 46] ty ks [.slice s.a s.n s.c, .slice t2.a t2.n t2.c]) w K :=
  b5l (bytes := 24) Tryd.underlying46 e7v (z := (Value.agg #[(Value.bool false), (Value.int .i64 0), (Value.bool false)])) (by kernel_rfl) (by kernel_rfl) (by kernel_rfl) (by kernel_rfl) I hr hs hb h
theorem b2d {g o : Nat} : Pu Tryd.prog (xV (Instr.fieldAt 90 (.pointer (some ⟨g, o, none⟩)) 5)) (.pointer (some ⟨g, o + 5, none⟩)) := Pu.ok fun w => by kernel_rfl
theorem d2j {a : Option Addr} {g o : Nat} (ha : a = some ⟨g, o, none⟩) (len cap : Nat) (k : IntKind) (i : Int) (h0 : 0 ≤ i) (h1 : i < len) : Pu Tryd.prog (xV (Instr.indexAt 104 (.slice a len cap) (.int k i))) (.pointer (some ⟨g, o + i.toNat * 1, none⟩)) := W9 Tryd.underlying104 Tryd.sizeOf9 ha len cap k i h0 h1
theorem a0G {g o : Nat} : Pu Tryd.prog (xV (Instr.fieldAt 138 (.pointer (some ⟨g, o, none⟩)) 0)) (.pointer (some ⟨g, o + 0, none⟩)) := Pu.ok fun w => by kernel_rfl
theorem a4g (a0 : Int) (a1 : Int) : Pu Tryd.prog (xV (Instr.build 223 #[(0, (Value.int .i64 a0)), (1, (Value.int .i64 a1))])) (.agg #[(Value.int .i64 a0), (Value.int .i64 a1)]) := Pu.ok fun w => by kernel_rfl
theorem e1C (d : Nat) (a0 b0 : Int) (a1 b1 : Int) (w : World) : (Op.equalIn (d + 2) 223 (.agg #[(Value.int .i64 a0), (Value.int .i64 a1)]) (.agg #[(Value.int .i64 b0), (Value.int .i64 b1)])).run Tryd.prog w = .ok (decide (a0 = b0 ∧ a1 = b1)) w := by
  have u3 := Tryd.underlying3
  have i3 := Tryd.isAgg3
  have s3 := Tryd.sizeOf3
  have hS : Tryd.prog.underlying 223 = some (.struct (Tryd.prog.fieldsOf 223)) := by kernel_rfl
  rw [run_equalIn_agg w (d + 1) 223 _ _ hS (by kernel_rfl)]
  simp only [Program.fieldsOf, Tryd.underlying223]
  go_simp
  try simp only [b6A]
  by_cases h0 : a0 = b0
  · by_cases h1 : a1 = b1
    · simp [h0, h1]
    · simp [h0, h1]
  · simp [h0]
theorem b0l (x y : Operand) (a0 b0 : Int) (a1 b1 : Int) : Pu Tryd.prog (xBin .eql 223 x y (.agg #[(Value.int .i64 a0), (Value.int .i64 a1)]) (.agg #[(Value.int .i64 b0), (Value.int .i64 b1)])) (.bool (decide (a0 = b0 ∧ a1 = b1))) := by
  refine Pu.ok (s := do eqGuard .eql 223 x y (.agg #[(Value.int .i64 a0), (Value.int .i64 a1)]) (.agg #[(Value.int .i64 b0), (Value.int .i64 b1)]); binOp .eql 223 (.agg #[(Value.int .i64 a0), (Value.int .i64 a1)]) (.agg #[(Value.int .i64 b0), (Value.int .i64 b1)])) fun w => ?_
  rw [Sem.run_bind, run_eqGuard_agg w _ _ _ _ _ _ (by kernel_rfl), Result.andThen_ok, run_eql_struct, show (10000 : Nat) = 9998 + 2 from rfl, e1C]
  rfl
theorem c8P  : Pu Tryd.prog (xV (Instr.build 223 #[])) (.agg #[(Value.int .i64 0), (Value.int .i64 0)]) := Pu.ok fun w => by kernel_rfl
theorem a1z (a0 : Int) (a1 : Int) : Pu Tryd.prog (xV (Instr.build 227 #[(0, (Value.int .i64 a0)), (1, (Value.int .i64 a1))])) (.agg #[(Value.int .i64 a0), (Value.int .i64 a1)]) := Pu.ok fun w => by kernel_rfl
theorem e1D (d : Nat) (a0 b0 : Int) (a1 b1 : Int) (w : World) : (Op.equalIn (d + 2) 227 (.agg #[(Value.int .i64 a0), (Value.int .i64 a1)]) (.agg #[(Value.int .i64 b0), (Value.int .i64 b1)])).run Tryd.prog w = .ok (decide (a0 = b0 ∧ a1 = b1)) w := by
  have u3 := Tryd.underlying3
  have i3 := Tryd.isAgg3
  have s3 := Tryd.sizeOf3
  have hS : Tryd.prog.underlying 227 = some (.struct (Tryd.prog.fieldsOf 227)) := by kernel_rfl
  rw [run_equalIn_agg w (d + 1) 227 _ _ hS (by kernel_rfl)]
  simp only [Program.fieldsOf, Tryd.underlying227]
  go_simp
  try simp only [b6A]
  by_cases h0 : a0 = b0
  · by_cases h1 : a1 = b1
    · simp [h0, h1]
    · simp [h0, h1]
  · simp [h0]
theorem a5z (x y : Operand) (a0 b0 : Int) (a1 b1 : Int) : Pu Tryd.prog (xBin .eql 227 x y (.agg #[(Value.int .i64 a0), (Value.int .i64 a1)]) (.agg #[(Value.int .i64 b0), (Value.int .i64 b1)])) (.bool (decide (a0 = b0 ∧ a1 = b1))) := by
  refine Pu.ok (s := do eqGuard .eql 227 x y (.agg #[(Value.int .i64 a0), (Value.int .i64 a1)]) (.agg #[(Value.int .i64 b0), (Value.int .i64 b1)]); binOp .eql 227 (.agg #[(Value.int .i64 a0), (Value.int .i64 a1)]) (.agg #[(Value.int .i64 b0), (Value.int .i64 b1)])) fun w => ?_
  rw [Sem.run_bind, run_eqGuard_agg w _ _ _ _ _ _ (by kernel_rfl), Result.andThen_ok, run_eql_struct, show (10000 : Nat) = 9998 + 2 from rfl, e1D]
  rfl
theorem c8Q  : Pu Tryd.prog (xV (Instr.build 227 #[])) (.agg #[(Value.int .i64 0), (Value.int .i64 0)]) := Pu.ok fun w => by kernel_rfl
theorem d5x (a0a : Option Addr) (a0n a0c : Nat) (a1a : Option Addr) (a1n a1c : Nat) (a2a : Option Addr) (a2n a2c : Nat) (a3a : Option Addr) (a3n a3c : Nat) (w : World) : (Instr.buildSlice 174 4 #[(0, (Value.slice a0a a0n a0c)), (1, (Value.slice a1a a1n a1c)), (2, (Value.slice a2a a2n a2c)), (3, (Value.slice a3a a3n a3c))]).run Tryd.prog w = .ok (.slice (some ⟨w.heap.size, 0, none⟩) 4 4) (w.alloc (.cells [(Value.slice a0a a0n a0c), (Value.slice a1a a1n a1c), (Value.slice a2a a2n a2c), (Value.slice a3a a3n a3c)].toArray 124)) := by kernel_rfl
abbrev m6 (x : r9) : List Value := [(Value.slice x.a3z.a x.a3z.n x.a3z.c), (Value.slice x.a4T.a x.a4T.n x.a4T.c)]
abbrev d7 (x : o2) : List Value := [(Value.int .i64 x.q8), (Value.int .i64 x.O0), (Value.int .i64 x.q9), (Value.slice x.v6.a x.v6.n x.v6.c), (Value.slice x.a1Z.a x.a1Z.n x.a1Z.c), (Value.slice x.J8.a x.J8.n x.J8.c)]
abbrev a4h (x : g8) : List Value := [(Value.int .i64 x.fnodes), (Value.int .i64 x.fdepth), (Value.int .i64 x.fe), (Value.bool x.fform), (Value.bool x.fnamed), (Value.slice x.fnames.a x.fnames.n x.fnames.c)]
end Go.Proofs.YtnhkdkcgdcgmdaaDoor
