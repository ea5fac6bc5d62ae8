/- Single operations at this program's types, and its structures; printed by lift.py. -/
import Derived.Test.YtnhkdkcgdcgmdaaDoorProg
import Derived.Test.YtnhkdkcgdcgmdaaDoorzZS5
import Derived.KernelRfl
import Derived.Laws.StructEq
import Derived.Laws.Tables
import Derived.Laws.Cover2
namespace Go.Proofs.YtnhkdkcgdcgmdaaDoor
open Go.RowKit
set_option maxRecDepth 100000
set_option maxHeartbeats 2000000
structure i4 where
  d9 : Int
  K2 : Int
  g7 : ByteArray
  A7 : Sl
structure o8 where
  d9 : Int
  fOp : Int
  m2 : Sl
  u5 : Sl
structure C4 where
  a4L : Sl
  a6O : Sl
structure R2 where
  a4a : Int
  b7O : Int
  a5B : Int
  b0R : Sl
  a2o : Sl
  b0S : Sl
structure a1h where
  e6B : Bool
  K2 : Int
  g0q : Bool
structure m3 where
  g7 : ByteArray
  E0 : Int
structure p6 where
  d9 : Int
  g7 : ByteArray
  m2 : Sl
  s8 : Sl
  K1 : Sl
  G8 : Sl
structure i7 where
  fnodes : Int
  fdepth : Int
  fe : Int
  fform : Bool
  fnamed : Bool
  fnames : Sl
structure i6 where
  fl : Sl
structure d7 where
  fname : ByteArray
  fas : Int
structure E5 where
  m8 : i4
structure b6r where
  fn : Int
  fdepth : Int
  fbad : Int
structure b6s where
  fok : Bool
  fnames : Bool
structure L1 where
  m5 : o8
structure N7 where
  N8 : m3
structure L2 where
  i2 : p6
structure g6L where
  f0 : Int
  f1 : Int
structure E1 where
  fexprs : Int
  fparts : Int
structure L5 where
  fexprs : Int
  fconds : Int
inductive a8 where
  | nil
  | C9 (x : E5)
  | J8 (x : L1)
  | G2 (x : N7)
  | D5 (x : L2)
def u7 : a8 → Value
  | .nil => .nilIface
  | .C9 x => .iface 123 (.agg #[(Value.int .i64 x.m8.d9), (Value.int .i64 x.m8.K2), (Value.string x.m8.g7), (Value.slice x.m8.A7.a x.m8.A7.n x.m8.A7.c)])
  | .J8 x => .iface 138 (.agg #[(Value.int .i64 x.m5.d9), (Value.int .i64 x.m5.fOp), (Value.slice x.m5.m2.a x.m5.m2.n x.m5.m2.c), (Value.slice x.m5.u5.a x.m5.u5.n x.m5.u5.c)])
  | .G2 x => .iface 177 (.agg #[(Value.string x.N8.g7), (Value.int .i64 x.N8.E0)])
  | .D5 x => .iface 179 (.agg #[(Value.int .i64 x.i2.d9), (Value.string x.i2.g7), (Value.slice x.i2.m2.a x.i2.m2.n x.i2.m2.c), (Value.slice x.i2.s8.a x.i2.s8.n x.i2.s8.c), (Value.slice x.i2.K1.a x.i2.K1.n x.i2.K1.c), (Value.slice x.i2.G8.a x.i2.G8.n x.i2.G8.c)])
theorem c1z (x : a8) : [u7 x].all (·.oneCell') = true := by cases x <;> rfl
def a8.r6 : a8 → E5
  | .C9 x => x
  | _ => (E5.mk (i4.mk 0 0 ⟨#[]⟩ (Sl.mk none 0 0)))
def a8.a4b : a8 → Bool
  | .C9 _ => true
  | _ => false
def a8.R9 : a8 → N7
  | .G2 x => x
  | _ => (N7.mk (m3.mk ⟨#[]⟩ 0))
def a8.a4c : a8 → Bool
  | .G2 _ => true
  | _ => false
def a8.j8 : a8 → L2
  | .D5 x => x
  | _ => (L2.mk (p6.mk 0 ⟨#[]⟩ (Sl.mk none 0 0) (Sl.mk none 0 0) (Sl.mk none 0 0) (Sl.mk none 0 0)))
def a8.a4d : a8 → Bool
  | .D5 _ => true
  | _ => false
theorem W0 {g o : Nat} : Pu Tryd.prog (xV (Instr.fieldAt 24 (.pointer (some ⟨g, o, none⟩)) 0)) (.pointer (some ⟨g, o + 0, none⟩)) := Pu.ok fun w => by kernel_rfl
theorem a4e {g o : Nat} : Pu Tryd.prog (xV (Instr.fieldAt 24 (.pointer (some ⟨g, o, none⟩)) 3)) (.pointer (some ⟨g, o + 3, none⟩)) := Pu.ok fun w => by kernel_rfl
theorem a2O (a : Option Addr) (n c : Nat) : Pu Tryd.prog (xBuiltin .len #[22] 3 [false] [.slice a n c]) (.int .i64 (n : Int)) := a0H Tryd.underlying22 a n c
theorem a5C {g o : Nat} : Pu Tryd.prog (xV (Instr.fieldAt 27 (.pointer (some ⟨g, o, none⟩)) 0)) (.pointer (some ⟨g, o + 0, none⟩)) := Pu.ok fun w => by kernel_rfl
theorem a1Y {g o : Nat} : Pu Tryd.prog (xV (Instr.fieldAt 27 (.pointer (some ⟨g, o, none⟩)) 3)) (.pointer (some ⟨g, o + 3, none⟩)) := Pu.ok fun w => by kernel_rfl
theorem a6U (a : Option Addr) (n c : Nat) : Pu Tryd.prog (xBuiltin .len #[25] 3 [false] [.slice a n c]) (.int .i64 (n : Int)) := a0H Tryd.underlying25 a n c
theorem a5D {g o : Nat} : Pu Tryd.prog (xV (Instr.fieldAt 27 (.pointer (some ⟨g, o, none⟩)) 2)) (.pointer (some ⟨g, o + 2, none⟩)) := Pu.ok fun w => by kernel_rfl
theorem a6V (a : Option Addr) (n c : Nat) : Pu Tryd.prog (xBuiltin .len #[45] 3 [false] [.slice a n c]) (.int .i64 (n : Int)) := a0H Tryd.underlying45 a n c
theorem b1H {g o : Nat} : Pu Tryd.prog (xV (Instr.fieldAt 49 (.pointer (some ⟨g, o, none⟩)) 2)) (.pointer (some ⟨g, o + 2, none⟩)) := Pu.ok fun w => by kernel_rfl
theorem b1I {g o : Nat} : Pu Tryd.prog (xV (Instr.fieldAt 49 (.pointer (some ⟨g, o, none⟩)) 0)) (.pointer (some ⟨g, o + 0, none⟩)) := Pu.ok fun w => by kernel_rfl
theorem c7R {g o : Nat} : Pu Tryd.prog (xV (Instr.fieldAt 49 (.pointer (some ⟨g, o, none⟩)) 1)) (.pointer (some ⟨g, o + 1, none⟩)) := Pu.ok fun w => by kernel_rfl
theorem T0 {a : Option Addr} {g o : Nat} (ha : a = some ⟨g, o, none⟩) (len cap : Nat) (k : IntKind) (i : Int) (h0 : 0 ≤ i) (h1 : i < len) : Pu Tryd.prog (xV (Instr.indexAt 45 (.slice a len cap) (.int k i))) (.pointer (some ⟨g, o + i.toNat * 1, none⟩)) := a1g Tryd.underlying45 Tryd.sizeOf2 ha len cap k i h0 h1
abbrev b6t (x : Int) : List Value := [(Value.int .i64 x)]
theorem d9c : Tryd.prog.info? 2 = some ((Tryd.prog.info? 2).getD default) := by kernel_rfl
theorem d1l {E : Pan} {w0 w : World} {ps : Nat → Prop} {H0 H : Hp} {Fs : List Frag} {K : Value → World → Prop} {s : Sl} {xs : List Int} {F : Frag} {t2 : Sl} {ys : List Int} {ks : List Bool} {ty : TypeId} (I : Inv w0 ps H0 H (F :: Fs) w) (hr : RowL 2 1 b6t s xs F) (hs : SrcO w b6t t2 ys) (hb : (xs.length + ys.length) * 9 ≤ 140737488355328) (h : ∀ (s' : Sl) (F' : Frag) (w' : World), RowL 2 1 b6t s' (xs ++ ys) F' → Inv w0 ps H0 H (F' :: Fs) w' → (∀ k, k < w.heap.size → (∀ p ∈ F, p.1 ≠ k) → w'.heap[k]? = w.heap[k]?) → K (.slice s'.a s'.n s'.c) w') : opK Tryd.prog E (xBuiltin .append #[45, 45] ty ks [.slice s.a s.n s.c, .slice t2.a t2.n t2.c]) w K :=
  b4V (bytes := 8) Tryd.underlying45 d9c (z := (Value.int .i64 0)) (by kernel_rfl) (by kernel_rfl) (by kernel_rfl) (by kernel_rfl) I hr hs hb h
theorem b6f (a0 : ByteArray) : Pu Tryd.prog (xV (Instr.build 58 #[(0, (Value.string a0))])) (.agg #[(Value.string a0), (Value.int .i64 0)]) := Pu.ok fun w => by kernel_rfl
abbrev m7 (x : m3) : List Value := [(Value.string x.g7), (Value.int .i64 x.E0)]
theorem b3d (x : m3) : (m7 x).length = 2 := rfl
theorem b3e (x : m3) : (m7 x).all (·.oneCell') = true := rfl
theorem c6O (R3 : ByteArray) (R4 : Int) (w : World) : (Instr.buildSlice 41 1 #[(0, (Value.agg #[(Value.string R3), (Value.int .i64 R4)]))]).run Tryd.prog w = .ok (.slice (some ⟨w.heap.size, 0, none⟩) 1 1) (w.alloc (.cells [(Value.string R3), (Value.int .i64 R4)].toArray 58)) := by kernel_rfl
abbrev g8 (x : o8) : List Value := [(Value.int .i64 x.d9), (Value.int .i64 x.fOp), (Value.slice x.m2.a x.m2.n x.m2.c), (Value.slice x.u5.a x.u5.n x.u5.c)]
theorem a7j (x : o8) : (g8 x).length = 4 := rfl
theorem a7k (x : o8) : (g8 x).all (·.oneCell') = true := rfl
theorem c6P (R3 : Int) (R4 : Int) (a0_2a : Option Addr) (a0_2n a0_2c : Nat) (a0_3a : Option Addr) (a0_3n a0_3c : Nat) (w : World) : (Instr.buildSlice 25 1 #[(0, (Value.agg #[(Value.int .i64 R3), (Value.int .i64 R4), (Value.slice a0_2a a0_2n a0_2c), (Value.slice a0_3a a0_3n a0_3c)]))]).run Tryd.prog w = .ok (.slice (some ⟨w.heap.size, 0, none⟩) 1 1) (w.alloc (.cells [(Value.int .i64 R3), (Value.int .i64 R4), (Value.slice a0_2a a0_2n a0_2c), (Value.slice a0_3a a0_3n a0_3c)].toArray 27)) := by kernel_rfl
abbrev i5 (x : p6) : List Value := [(Value.int .i64 x.d9), (Value.string x.g7), (Value.slice x.m2.a x.m2.n x.m2.c), (Value.slice x.s8.a x.s8.n x.s8.c), (Value.slice x.K1.a x.K1.n x.K1.c), (Value.slice x.G8.a x.G8.n x.G8.c)]
theorem b3f (x : p6) : (i5 x).length = 6 := rfl
theorem b3g (x : p6) : (i5 x).all (·.oneCell') = true := rfl
theorem e0i (R3 : Int) (R4 : ByteArray) (a0_2a : Option Addr) (a0_2n a0_2c : Nat) (a0_3a : Option Addr) (a0_3n a0_3c : Nat) (a0_4a : Option Addr) (a0_4n a0_4c : Nat) (a0_5a : Option Addr) (a0_5n a0_5c : Nat) (w : World) : (Instr.buildSlice 42 1 #[(0, (Value.agg #[(Value.int .i64 R3), (Value.string R4), (Value.slice a0_2a a0_2n a0_2c), (Value.slice a0_3a a0_3n a0_3c), (Value.slice a0_4a a0_4n a0_4c), (Value.slice a0_5a a0_5n a0_5c)]))]).run Tryd.prog w = .ok (.slice (some ⟨w.heap.size, 0, none⟩) 1 1) (w.alloc (.cells [(Value.int .i64 R3), (Value.string R4), (Value.slice a0_2a a0_2n a0_2c), (Value.slice a0_3a a0_3n a0_3c), (Value.slice a0_4a a0_4n a0_4c), (Value.slice a0_5a a0_5n a0_5c)].toArray 63)) := by kernel_rfl
theorem c1A (a0a : Option Addr) (a0n a0c : Nat) (a1a : Option Addr) (a1n a1c : Nat) : Pu Tryd.prog (xV (Instr.build 44 #[(0, (Value.slice a0a a0n a0c)), (1, (Value.slice a1a a1n a1c))])) (.agg #[(Value.slice a0a a0n a0c), (Value.slice a1a a1n a1c)]) := Pu.ok fun w => by kernel_rfl
theorem a4f {g o : Nat} : Pu Tryd.prog (xV (Instr.fieldAt 49 (.pointer (some ⟨g, o, none⟩)) 4)) (.pointer (some ⟨g, o + 4, none⟩)) := Pu.ok fun w => by kernel_rfl
abbrev d5 (x : i4) : List Value := [(Value.int .i64 x.d9), (Value.int .i64 x.K2), (Value.string x.g7), (Value.slice x.A7.a x.A7.n x.A7.c)]
theorem a0S (x : i4) : (d5 x).length = 4 := rfl
theorem a0T (x : i4) : (d5 x).all (·.oneCell') = true := rfl
theorem b9y (R3 : Int) (R4 : Int) (a8m : ByteArray) (a0_3a : Option Addr) (a0_3n a0_3c : Nat) (c2z : Int) (c2A : Int) (e6C : ByteArray) (a1_3a : Option Addr) (a1_3n a1_3c : Nat) (w : World) : (Instr.buildSlice 22 2 #[(0, (Value.agg #[(Value.int .i64 R3), (Value.int .i64 R4), (Value.string a8m), (Value.slice a0_3a a0_3n a0_3c)])), (1, (Value.agg #[(Value.int .i64 c2z), (Value.int .i64 c2A), (Value.string e6C), (Value.slice a1_3a a1_3n a1_3c)]))]).run Tryd.prog w = .ok (.slice (some ⟨w.heap.size, 0, none⟩) 2 2) (w.alloc (.cells [(Value.int .i64 R3), (Value.int .i64 R4), (Value.string a8m), (Value.slice a0_3a a0_3n a0_3c), (Value.int .i64 c2z), (Value.int .i64 c2A), (Value.string e6C), (Value.slice a1_3a a1_3n a1_3c)].toArray 24)) := by kernel_rfl
theorem a5E (a0 : Int) (a1 : ByteArray) (a2a : Option Addr) (a2n a2c : Nat) : Pu Tryd.prog (xV (Instr.build 63 #[(0, (Value.int .i64 a0)), (1, (Value.string a1)), (2, (Value.slice a2a a2n a2c))])) (.agg #[(Value.int .i64 a0), (Value.string a1), (Value.slice a2a a2n a2c), (Value.slice none 0 0), (Value.slice none 0 0), (Value.slice none 0 0)]) := Pu.ok fun w => by kernel_rfl
theorem b5b (R3 : Int) (R4 : Int) (a8m : ByteArray) (a0_3a : Option Addr) (a0_3n a0_3c : Nat) (w : World) : (Instr.buildSlice 22 1 #[(0, (Value.agg #[(Value.int .i64 R3), (Value.int .i64 R4), (Value.string a8m), (Value.slice a0_3a a0_3n a0_3c)]))]).run Tryd.prog w = .ok (.slice (some ⟨w.heap.size, 0, none⟩) 1 1) (w.alloc (.cells [(Value.int .i64 R3), (Value.int .i64 R4), (Value.string a8m), (Value.slice a0_3a a0_3n a0_3c)].toArray 24)) := by kernel_rfl
theorem e0j (R3 : Int) (R4 : ByteArray) (a0_2a : Option Addr) (a0_2n a0_2c : Nat) (a0_3a : Option Addr) (a0_3n a0_3c : Nat) (a0_4a : Option Addr) (a0_4n a0_4c : Nat) (a0_5a : Option Addr) (a0_5n a0_5c : Nat) (c2z : Int) (c2A : ByteArray) (a1_2a : Option Addr) (a1_2n a1_2c : Nat) (a1_3a : Option Addr) (a1_3n a1_3c : Nat) (a1_4a : Option Addr) (a1_4n a1_4c : Nat) (a1_5a : Option Addr) (a1_5n a1_5c : Nat) (w : World) : (Instr.buildSlice 42 2 #[(0, (Value.agg #[(Value.int .i64 R3), (Value.string R4), (Value.slice a0_2a a0_2n a0_2c), (Value.slice a0_3a a0_3n a0_3c), (Value.slice a0_4a a0_4n a0_4c), (Value.slice a0_5a a0_5n a0_5c)])), (1, (Value.agg #[(Value.int .i64 c2z), (Value.string c2A), (Value.slice a1_2a a1_2n a1_2c), (Value.slice a1_3a a1_3n a1_3c), (Value.slice a1_4a a1_4n a1_4c), (Value.slice a1_5a a1_5n a1_5c)]))]).run Tryd.prog w = .ok (.slice (some ⟨w.heap.size, 0, none⟩) 2 2) (w.alloc (.cells [(Value.int .i64 R3), (Value.string R4), (Value.slice a0_2a a0_2n a0_2c), (Value.slice a0_3a a0_3n a0_3c), (Value.slice a0_4a a0_4n a0_4c), (Value.slice a0_5a a0_5n a0_5c), (Value.int .i64 c2z), (Value.string c2A), (Value.slice a1_2a a1_2n a1_2c), (Value.slice a1_3a a1_3n a1_3c), (Value.slice a1_4a a1_4n a1_4c), (Value.slice a1_5a a1_5n a1_5c)].toArray 63)) := by kernel_rfl
theorem b7P {g o : Nat} : Pu Tryd.prog (xV (Instr.fieldAt 49 (.pointer (some ⟨g, o, none⟩)) 5)) (.pointer (some ⟨g, o + 5, none⟩)) := Pu.ok fun w => by kernel_rfl
theorem a7l (a0 : Int) (a3a : Option Addr) (a3n a3c : Nat) : Pu Tryd.prog (xV (Instr.build 24 #[(0, (Value.int .i64 a0)), (3, (Value.slice a3a a3n a3c))])) (.agg #[(Value.int .i64 a0), (Value.int .i64 0), (Value.string ⟨#[]⟩), (Value.slice a3a a3n a3c)]) := Pu.ok fun w => by kernel_rfl
theorem b3h (a0 : Int) (a2 : ByteArray) : Pu Tryd.prog (xV (Instr.build 24 #[(0, (Value.int .i64 a0)), (2, (Value.string a2))])) (.agg #[(Value.int .i64 a0), (Value.int .i64 0), (Value.string a2), (Value.slice none 0 0)]) := Pu.ok fun w => by kernel_rfl
theorem b7Q (a0 : Int) (a1 : Int) (a2a : Option Addr) (a2n a2c : Nat) : Pu Tryd.prog (xV (Instr.build 27 #[(0, (Value.int .i64 a0)), (1, (Value.int .i64 a1)), (2, (Value.slice a2a a2n a2c))])) (.agg #[(Value.int .i64 a0), (Value.int .i64 a1), (Value.slice a2a a2n a2c), (Value.slice none 0 0)]) := Pu.ok fun w => by kernel_rfl
theorem a1D {a : Option Addr} {g o : Nat} (ha : a = some ⟨g, o, none⟩) (len cap : Nat) (k : IntKind) (i : Int) (h0 : 0 ≤ i) (h1 : i < len) : Pu Tryd.prog (xV (Instr.indexAt 22 (.slice a len cap) (.int k i))) (.pointer (some ⟨g, o + i.toNat * 4, none⟩)) := a1g Tryd.underlying22 Tryd.sizeOf24 ha len cap k i h0 h1
theorem a7A {g o : Nat} : Pu Tryd.prog (xV (Instr.fieldAt 24 (.pointer (some ⟨g, o, none⟩)) 1)) (.pointer (some ⟨g, o + 1, none⟩)) := Pu.ok fun w => by kernel_rfl
theorem a4g {g o : Nat} : Pu Tryd.prog (xV (Instr.fieldAt 24 (.pointer (some ⟨g, o, none⟩)) 2)) (.pointer (some ⟨g, o + 2, none⟩)) := Pu.ok fun w => by kernel_rfl
theorem a7B {g o : Nat} : Pu Tryd.prog (xV (Instr.fieldAt 27 (.pointer (some ⟨g, o, none⟩)) 1)) (.pointer (some ⟨g, o + 1, none⟩)) := Pu.ok fun w => by kernel_rfl
theorem a2R {a : Option Addr} {g o : Nat} (ha : a = some ⟨g, o, none⟩) (len cap : Nat) (k : IntKind) (i : Int) (h0 : 0 ≤ i) (h1 : i < len) : Pu Tryd.prog (xV (Instr.indexAt 25 (.slice a len cap) (.int k i))) (.pointer (some ⟨g, o + i.toNat * 4, none⟩)) := a1g Tryd.underlying25 Tryd.sizeOf27 ha len cap k i h0 h1
theorem a4T (a0 : Int) (a1 : Int) : Pu Tryd.prog (xV (Instr.build 24 #[(0, (Value.int .i64 a0)), (1, (Value.int .i64 a1))])) (.agg #[(Value.int .i64 a0), (Value.int .i64 a1), (Value.string ⟨#[]⟩), (Value.slice none 0 0)]) := Pu.ok fun w => by kernel_rfl
theorem d4k (x y : Operand) (a b : Bool) : Pu Tryd.prog (xBin .eql 4 x y (.bool a) (.bool b)) (.bool (a == b)) := e6t _ _ _ a b Tryd.underlying4
theorem a6j (x y : Operand) (a b : Bool) : Pu Tryd.prog (xBin .neq 4 x y (.bool a) (.bool b)) (.bool (a != b)) := e6u _ _ _ a b Tryd.underlying4
theorem b1J {g o : Nat} : Pu Tryd.prog (xV (Instr.fieldAt 44 (.pointer (some ⟨g, o, none⟩)) 1)) (.pointer (some ⟨g, o + 1, none⟩)) := Pu.ok fun w => by kernel_rfl
theorem a4M {g o : Nat} : Pu Tryd.prog (xV (Instr.fieldAt 106 (.pointer (some ⟨g, o, none⟩)) 2)) (.pointer (some ⟨g, o + 2, none⟩)) := Pu.ok fun w => by kernel_rfl
theorem b6g {g o : Nat} : Pu Tryd.prog (xV (Instr.fieldAt 106 (.pointer (some ⟨g, o, none⟩)) 1)) (.pointer (some ⟨g, o + 1, none⟩)) := Pu.ok fun w => by kernel_rfl
theorem b0n {g o : Nat} : Pu Tryd.prog (xV (Instr.fieldAt 106 (.pointer (some ⟨g, o, none⟩)) 0)) (.pointer (some ⟨g, o + 0, none⟩)) := Pu.ok fun w => by kernel_rfl
theorem a7C {g o : Nat} : Pu Tryd.prog (xV (Instr.fieldAt 44 (.pointer (some ⟨g, o, none⟩)) 0)) (.pointer (some ⟨g, o + 0, none⟩)) := Pu.ok fun w => by kernel_rfl
theorem c7S  : Pu Tryd.prog (xV (Instr.build 114 #[])) (.agg #[(Value.slice none 0 0)]) := Pu.ok fun w => by kernel_rfl
abbrev p9 (x : d7) : List Value := [(Value.string x.fname), (Value.int .i64 x.fas)]
theorem a3v (x : d7) : (p9 x).length = 2 := rfl
theorem a3w (x : d7) : (p9 x).all (·.oneCell') = true := rfl
theorem a5s (a : Option Addr) (n c : Nat) : Pu Tryd.prog (xBuiltin .len #[42] 3 [false] [.slice a n c]) (.int .i64 (n : Int)) := a0H Tryd.underlying42 a n c
theorem b6u {a : Option Addr} {g o : Nat} (ha : a = some ⟨g, o, none⟩) (len cap : Nat) (k : IntKind) (i : Int) (h0 : 0 ≤ i) (h1 : i < len) : Pu Tryd.prog (xV (Instr.indexAt 42 (.slice a len cap) (.int k i))) (.pointer (some ⟨g, o + i.toNat * 6, none⟩)) := a1g Tryd.underlying42 Tryd.sizeOf63 ha len cap k i h0 h1
theorem a5F {g o : Nat} : Pu Tryd.prog (xV (Instr.fieldAt 63 (.pointer (some ⟨g, o, none⟩)) 0)) (.pointer (some ⟨g, o + 0, none⟩)) := Pu.ok fun w => by kernel_rfl
theorem a0A {g o : Nat} : Pu Tryd.prog (xV (Instr.fieldAt 114 (.pointer (some ⟨g, o, none⟩)) 0)) (.pointer (some ⟨g, o + 0, none⟩)) := Pu.ok fun w => by kernel_rfl
theorem a1Z {g o : Nat} : Pu Tryd.prog (xV (Instr.fieldAt 63 (.pointer (some ⟨g, o, none⟩)) 1)) (.pointer (some ⟨g, o + 1, none⟩)) := Pu.ok fun w => by kernel_rfl
theorem a4h (a0 : ByteArray) (a1 : Int) : Pu Tryd.prog (xV (Instr.build 117 #[(0, (Value.string a0)), (1, (Value.int .i64 a1))])) (.agg #[(Value.string a0), (Value.int .i64 a1)]) := Pu.ok fun w => by kernel_rfl
theorem b1K (R3 : ByteArray) (R4 : Int) (w : World) : (Instr.buildSlice 112 1 #[(0, (Value.agg #[(Value.string R3), (Value.int .i64 R4)]))]).run Tryd.prog w = .ok (.slice (some ⟨w.heap.size, 0, none⟩) 1 1) (w.alloc (.cells [(Value.string R3), (Value.int .i64 R4)].toArray 117)) := by kernel_rfl
theorem e0k : Tryd.prog.info? 117 = some ((Tryd.prog.info? 117).getD default) := by kernel_rfl
theorem b5c {E : Pan} {w0 w : World} {ps : Nat → Prop} {H0 H : Hp} {Fs : List Frag} {K : Value → World → Prop} {s : Sl} {xs : List d7} {F : Frag} {t2 : Sl} {ys : List d7} {ks : List Bool} {ty : TypeId} (I : Inv w0 ps H0 H (F :: Fs) w) (hr : RowL 117 2 p9 s xs F) (hs : SrcO w p9 t2 ys) (hb : (xs.length + ys.length) * 25 ≤ 140737488355328) (h : ∀ (s' : Sl) (F' : Frag) (w' : World), RowL 117 2 p9 s' (xs ++ ys) F' → Inv w0 ps H0 H (F' :: Fs) w' → (∀ k, k < w.heap.size → (∀ p ∈ F, p.1 ≠ k) → w'.heap[k]? = w.heap[k]?) → K (.slice s'.a s'.n s'.c) w') : opK Tryd.prog E (xBuiltin .append #[112, 112] ty ks [.slice s.a s.n s.c, .slice t2.a t2.n t2.c]) w K :=
  b4V (bytes := 24) Tryd.underlying112 e0k (z := (Value.agg #[(Value.string ⟨#[]⟩), (Value.int .i64 0)])) (by kernel_rfl) (by kernel_rfl) (by kernel_rfl) (by kernel_rfl) I hr hs hb h
theorem a7D {g o : Nat} : Pu Tryd.prog (xV (Instr.fieldAt 63 (.pointer (some ⟨g, o, none⟩)) 3)) (.pointer (some ⟨g, o + 3, none⟩)) := Pu.ok fun w => by kernel_rfl
theorem a5G {g o : Nat} : Pu Tryd.prog (xV (Instr.fieldAt 63 (.pointer (some ⟨g, o, none⟩)) 2)) (.pointer (some ⟨g, o + 2, none⟩)) := Pu.ok fun w => by kernel_rfl
theorem a5H {g o : Nat} : Pu Tryd.prog (xV (Instr.fieldAt 63 (.pointer (some ⟨g, o, none⟩)) 4)) (.pointer (some ⟨g, o + 4, none⟩)) := Pu.ok fun w => by kernel_rfl
theorem a5I {g o : Nat} : Pu Tryd.prog (xV (Instr.fieldAt 63 (.pointer (some ⟨g, o, none⟩)) 5)) (.pointer (some ⟨g, o + 5, none⟩)) := Pu.ok fun w => by kernel_rfl
theorem d1m {a : Option Addr} {g o : Nat} (ha : a = some ⟨g, o, none⟩) (len cap : Nat) (k : IntKind) (i : Int) (h0 : 0 ≤ i) (h1 : i < len) : Pu Tryd.prog (xV (Instr.indexAt 112 (.slice a len cap) (.int k i))) (.pointer (some ⟨g, o + i.toNat * 2, none⟩)) := a1g Tryd.underlying112 Tryd.sizeOf117 ha len cap k i h0 h1
theorem b0o {g o : Nat} : Pu Tryd.prog (xV (Instr.fieldAt 117 (.pointer (some ⟨g, o, none⟩)) 0)) (.pointer (some ⟨g, o + 0, none⟩)) := Pu.ok fun w => by kernel_rfl
theorem c6z {g o : Nat} : Pu Tryd.prog (xV (Instr.fieldAt 117 (.pointer (some ⟨g, o, none⟩)) 1)) (.pointer (some ⟨g, o + 1, none⟩)) := Pu.ok fun w => by kernel_rfl
theorem c2B (R3 : Int) (R4 : Int) (a8m : ByteArray) (a0_3a : Option Addr) (a0_3n a0_3c : Nat) : Pu Tryd.prog (xV (Instr.build 123 #[(0, (Value.agg #[(Value.int .i64 R3), (Value.int .i64 R4), (Value.string a8m), (Value.slice a0_3a a0_3n a0_3c)]))])) (.agg #[(Value.int .i64 R3), (Value.int .i64 R4), (Value.string a8m), (Value.slice a0_3a a0_3n a0_3c)]) := Pu.ok fun w => by kernel_rfl
theorem b0T (x : E5) : Pu Tryd.prog (xV (Instr.makeInterface 123 (.agg #[(Value.int .i64 x.m8.d9), (Value.int .i64 x.m8.K2), (Value.string x.m8.g7), (Value.slice x.m8.A7.a x.m8.A7.n x.m8.A7.c)]))) (u7 (a8.C9 x)) := Pu.ok fun w => rfl
abbrev p7 (x : a8) : List Value := [(u7 x)]
theorem M8 (x : a8) : (p7 x).length = 1 := rfl
theorem P1 (x : a8) : (p7 x).all (·.oneCell') = true := c1z x
theorem b1L (a0 : a8) (w : World) : (Instr.buildSlice 124 1 #[(0, (u7 a0))]).run Tryd.prog w = .ok (.slice (some ⟨w.heap.size, 0, none⟩) 1 1) (w.alloc (.cells [(u7 a0)].toArray 152)) := by cases a0 <;> kernel_rfl
theorem c2C (R3 : Int) (R4 : Int) (a0_2a : Option Addr) (a0_2n a0_2c : Nat) (a0_3a : Option Addr) (a0_3n a0_3c : Nat) : Pu Tryd.prog (xV (Instr.build 138 #[(0, (Value.agg #[(Value.int .i64 R3), (Value.int .i64 R4), (Value.slice a0_2a a0_2n a0_2c), (Value.slice a0_3a a0_3n a0_3c)]))])) (.agg #[(Value.int .i64 R3), (Value.int .i64 R4), (Value.slice a0_2a a0_2n a0_2c), (Value.slice a0_3a a0_3n a0_3c)]) := Pu.ok fun w => by kernel_rfl
theorem b9z (x : L1) : Pu Tryd.prog (xV (Instr.makeInterface 138 (.agg #[(Value.int .i64 x.m5.d9), (Value.int .i64 x.m5.fOp), (Value.slice x.m5.m2.a x.m5.m2.n x.m5.m2.c), (Value.slice x.m5.u5.a x.m5.u5.n x.m5.u5.c)]))) (u7 (a8.J8 x)) := Pu.ok fun w => rfl
theorem b7R (k : IntKind) (n : Int) : Pu Tryd.prog (xV (convert 2 96 (.int k n))) (.int .u64 (IntKind.wrap .u64 n)) := Pu.ok fun w => run_convert_int (P := Tryd.prog) (w := w) 2 96 k n (by rw [Tryd.underlying2]; rfl) Tryd.underlying96
theorem c2D (a0a : Option Addr) (a0n a0c : Nat) (a1a : Option Addr) (a1n a1c : Nat) (w : World) : (Instr.buildSlice 174 2 #[(0, (Value.slice a0a a0n a0c)), (1, (Value.slice a1a a1n a1c))]).run Tryd.prog w = .ok (.slice (some ⟨w.heap.size, 0, none⟩) 2 2) (w.alloc (.cells [(Value.slice a0a a0n a0c), (Value.slice a1a a1n a1c)].toArray 124)) := by kernel_rfl
theorem a9U (a : Option Addr) (n c : Nat) : Pu Tryd.prog (xBuiltin .len #[41] 3 [false] [.slice a n c]) (.int .i64 (n : Int)) := a0H Tryd.underlying41 a n c
theorem b1M {a : Option Addr} {g o : Nat} (ha : a = some ⟨g, o, none⟩) (len cap : Nat) (k : IntKind) (i : Int) (h0 : 0 ≤ i) (h1 : i < len) : Pu Tryd.prog (xV (Instr.indexAt 41 (.slice a len cap) (.int k i))) (.pointer (some ⟨g, o + i.toNat * 2, none⟩)) := a1g Tryd.underlying41 Tryd.sizeOf58 ha len cap k i h0 h1
theorem c7T  : Pu Tryd.prog (xV (Instr.build 106 #[])) (.agg #[(Value.int .i64 0), (Value.int .i64 0), (Value.int .i64 0), (Value.bool false), (Value.bool false), (Value.slice none 0 0)]) := Pu.ok fun w => by kernel_rfl
abbrev C8 (x : ByteArray) : List Value := [(Value.string x)]
theorem b6h (x : ByteArray) : (C8 x).length = 1 := rfl
theorem b6i (x : ByteArray) : (C8 x).all (·.oneCell') = true := rfl
theorem a7E (a : Option Addr) (n c : Nat) : Pu Tryd.prog (xBuiltin .len #[124] 3 [false] [.slice a n c]) (.int .i64 (n : Int)) := a0H Tryd.underlying124 a n c
theorem d1n {a : Option Addr} {g o : Nat} (ha : a = some ⟨g, o, none⟩) (len cap : Nat) (k : IntKind) (i : Int) (h0 : 0 ≤ i) (h1 : i < len) : Pu Tryd.prog (xV (Instr.indexAt 124 (.slice a len cap) (.int k i))) (.pointer (some ⟨g, o + i.toNat * 1, none⟩)) := a1g Tryd.underlying124 Tryd.sizeOf152 ha len cap k i h0 h1
theorem b0p {g o : Nat} : Pu Tryd.prog (xV (Instr.fieldAt 106 (.pointer (some ⟨g, o, none⟩)) 3)) (.pointer (some ⟨g, o + 3, none⟩)) := Pu.ok fun w => by kernel_rfl
theorem b0q {g o : Nat} : Pu Tryd.prog (xV (Instr.fieldAt 106 (.pointer (some ⟨g, o, none⟩)) 4)) (.pointer (some ⟨g, o + 4, none⟩)) := Pu.ok fun w => by kernel_rfl
theorem b0r {g o : Nat} : Pu Tryd.prog (xV (Instr.fieldAt 106 (.pointer (some ⟨g, o, none⟩)) 5)) (.pointer (some ⟨g, o + 5, none⟩)) := Pu.ok fun w => by kernel_rfl
theorem d4l (a0 : ByteArray) (w : World) : (Instr.buildSlice 104 1 #[(0, (Value.string a0))]).run Tryd.prog w = .ok (.slice (some ⟨w.heap.size, 0, none⟩) 1 1) (w.alloc (.cells [(Value.string a0)].toArray 9)) := by kernel_rfl
theorem g0r : Tryd.prog.info? 9 = some ((Tryd.prog.info? 9).getD default) := by kernel_rfl
theorem e0l {E : Pan} {w0 w : World} {ps : Nat → Prop} {H0 H : Hp} {Fs : List Frag} {K : Value → World → Prop} {s : Sl} {xs : List ByteArray} {F : Frag} {t2 : Sl} {ys : List ByteArray} {ks : List Bool} {ty : TypeId} (I : Inv w0 ps H0 H (F :: Fs) w) (hr : RowL 9 1 C8 s xs F) (hs : SrcO w C8 t2 ys) (hb : (xs.length + ys.length) * 17 ≤ 140737488355328) (h : ∀ (s' : Sl) (F' : Frag) (w' : World), RowL 9 1 C8 s' (xs ++ ys) F' → Inv w0 ps H0 H (F' :: Fs) w' → (∀ k, k < w.heap.size → (∀ p ∈ F, p.1 ≠ k) → w'.heap[k]? = w.heap[k]?) → K (.slice s'.a s'.n s'.c) w') : opK Tryd.prog E (xBuiltin .append #[104, 104] ty ks [.slice s.a s.n s.c, .slice t2.a t2.n t2.c]) w K :=
  b4V (bytes := 16) Tryd.underlying104 g0r (z := (Value.string ⟨#[]⟩)) (by kernel_rfl) (by kernel_rfl) (by kernel_rfl) (by kernel_rfl) I hr hs hb h
theorem a3A : Pu Tryd.prog (xV (Instr.build 171 #[(0, (Value.func (.func 123) #[] #[])), (1, (Value.func (.func 124) #[] #[])), (2, (Value.func (.func 125) #[] #[])), (3, (Value.func (.func 126) #[] #[])), (4, (Value.func (.func 127) #[] #[])), (5, (Value.func (.func 128) #[] #[])), (6, (Value.func (.func 129) #[] #[]))])) (.agg #[(Value.func (.func 123) #[] #[]), (Value.func (.func 124) #[] #[]), (Value.func (.func 125) #[] #[]), (Value.func (.func 126) #[] #[]), (Value.func (.func 127) #[] #[]), (Value.func (.func 128) #[] #[]), (Value.func (.func 129) #[] #[])]) := Pu.ok fun w => by kernel_rfl
theorem R7 (k : IntKind) (i : Int) (h0 : 0 ≤ i) (h1 : i < 7) : Pu Tryd.prog (xV (Instr.index 171 (.agg #[(Value.func (.func 123) #[] #[]), (Value.func (.func 124) #[] #[]), (Value.func (.func 125) #[] #[]), (Value.func (.func 126) #[] #[]), (Value.func (.func 127) #[] #[]), (Value.func (.func 128) #[] #[]), (Value.func (.func 129) #[] #[])]) (.int k i))) (([(Value.func (.func 123) #[] #[]), (Value.func (.func 124) #[] #[]), (Value.func (.func 125) #[] #[]), (Value.func (.func 126) #[] #[]), (Value.func (.func 127) #[] #[]), (Value.func (.func 128) #[] #[]), (Value.func (.func 129) #[] #[])] : List Value).getD i.toNat undef) := by
  obtain rfl | rfl | rfl | rfl | rfl | rfl | rfl := (by omega : i = 0 ∨ i = 1 ∨ i = 2 ∨ i = 3 ∨ i = 4 ∨ i = 5 ∨ i = 6)
  · exact Pu.ok fun w => by kernel_rfl
  · exact Pu.ok fun w => by kernel_rfl
  · exact Pu.ok fun w => by kernel_rfl
  · exact Pu.ok fun w => by kernel_rfl
  · exact Pu.ok fun w => by kernel_rfl
  · exact Pu.ok fun w => by kernel_rfl
  · exact Pu.ok fun w => by kernel_rfl
theorem a7F {g o : Nat} : Pu Tryd.prog (xV (Instr.fieldAt 90 (.pointer (some ⟨g, o, none⟩)) 4)) (.pointer (some ⟨g, o + 4, none⟩)) := Pu.ok fun w => by kernel_rfl
theorem b1N {g o : Nat} : Pu Tryd.prog (xV (Instr.fieldAt 90 (.pointer (some ⟨g, o, none⟩)) 0)) (.pointer (some ⟨g, o + 0, none⟩)) := Pu.ok fun w => by kernel_rfl
theorem c1B (a0 : Int) (a1 : Int) : Pu Tryd.prog (xV (Instr.build 93 #[(0, (Value.int .i64 a0)), (1, (Value.int .i64 a1))])) (.agg #[(Value.int .i64 a0), (Value.int .i64 a1)]) := Pu.ok fun w => by kernel_rfl
theorem b1O {g o : Nat} : Pu Tryd.prog (xV (Instr.fieldAt 90 (.pointer (some ⟨g, o, none⟩)) 1)) (.pointer (some ⟨g, o + 1, none⟩)) := Pu.ok fun w => by kernel_rfl
theorem b7S (a : Option Addr) (n c : Nat) : Pu Tryd.prog (xBuiltin .len #[174] 3 [false] [.slice a n c]) (.int .i64 (n : Int)) := a0H Tryd.underlying174 a n c
theorem c1d {a : Option Addr} {g o : Nat} (ha : a = some ⟨g, o, none⟩) (len cap : Nat) (k : IntKind) (i : Int) (h0 : 0 ≤ i) (h1 : i < len) : Pu Tryd.prog (xV (Instr.indexAt 174 (.slice a len cap) (.int k i))) (.pointer (some ⟨g, o + i.toNat * 1, none⟩)) := a1g Tryd.underlying174 Tryd.sizeOf124 ha len cap k i h0 h1
theorem d1o (s : ByteArray) : Pu Tryd.prog (xV (Instr.makeInterface 9 (.string s))) (.iface 9 (.string s)) := Pu.ok fun w => by kernel_rfl
theorem c6Q : Tryd.prog.info? 152 = some ((Tryd.prog.info? 152).getD default) := by kernel_rfl
theorem b0U {E : Pan} {w0 w : World} {ps : Nat → Prop} {H0 H : Hp} {Fs : List Frag} {K : Value → World → Prop} {s : Sl} {xs : List a8} {F : Frag} {t2 : Sl} {ys : List a8} {ks : List Bool} {ty : TypeId} (I : Inv w0 ps H0 H (F :: Fs) w) (hr : RowL 152 1 p7 s xs F) (hs : SrcO w p7 t2 ys) (hb : (xs.length + ys.length) * 17 ≤ 140737488355328) (h : ∀ (s' : Sl) (F' : Frag) (w' : World), RowL 152 1 p7 s' (xs ++ ys) F' → Inv w0 ps H0 H (F' :: Fs) w' → (∀ k, k < w.heap.size → (∀ p ∈ F, p.1 ≠ k) → w'.heap[k]? = w.heap[k]?) → K (.slice s'.a s'.n s'.c) w') : opK Tryd.prog E (xBuiltin .append #[124, 124] ty ks [.slice s.a s.n s.c, .slice t2.a t2.n t2.c]) w K :=
  b4V (bytes := 16) Tryd.underlying124 c6Q (z := Value.nilIface) (by kernel_rfl) (by kernel_rfl) (by kernel_rfl) (by kernel_rfl) I hr hs hb h
theorem c2E (R3 : ByteArray) (R4 : Int) : Pu Tryd.prog (xV (Instr.build 177 #[(0, (Value.agg #[(Value.string R3), (Value.int .i64 R4)]))])) (.agg #[(Value.string R3), (Value.int .i64 R4)]) := Pu.ok fun w => by kernel_rfl
theorem b9A (x : N7) : Pu Tryd.prog (xV (Instr.makeInterface 177 (.agg #[(Value.string x.N8.g7), (Value.int .i64 x.N8.E0)]))) (u7 (a8.G2 x)) := Pu.ok fun w => rfl
theorem c2F (R3 : Int) (R4 : ByteArray) (a0_2a : Option Addr) (a0_2n a0_2c : Nat) (a0_3a : Option Addr) (a0_3n a0_3c : Nat) (a0_4a : Option Addr) (a0_4n a0_4c : Nat) (a0_5a : Option Addr) (a0_5n a0_5c : Nat) : Pu Tryd.prog (xV (Instr.build 179 #[(0, (Value.agg #[(Value.int .i64 R3), (Value.string R4), (Value.slice a0_2a a0_2n a0_2c), (Value.slice a0_3a a0_3n a0_3c), (Value.slice a0_4a a0_4n a0_4c), (Value.slice a0_5a a0_5n a0_5c)]))])) (.agg #[(Value.int .i64 R3), (Value.string R4), (Value.slice a0_2a a0_2n a0_2c), (Value.slice a0_3a a0_3n a0_3c), (Value.slice a0_4a a0_4n a0_4c), (Value.slice a0_5a a0_5n a0_5c)]) := Pu.ok fun w => by kernel_rfl
theorem b9B (x : L2) : Pu Tryd.prog (xV (Instr.makeInterface 179 (.agg #[(Value.int .i64 x.i2.d9), (Value.string x.i2.g7), (Value.slice x.i2.m2.a x.i2.m2.n x.i2.m2.c), (Value.slice x.i2.s8.a x.i2.s8.n x.i2.s8.c), (Value.slice x.i2.K1.a x.i2.K1.n x.i2.K1.c), (Value.slice x.i2.G8.a x.i2.G8.n x.i2.G8.c)]))) (u7 (a8.D5 x)) := Pu.ok fun w => rfl
theorem a2S {g o : Nat} : Pu Tryd.prog (xV (Instr.fieldAt 58 (.pointer (some ⟨g, o, none⟩)) 1)) (.pointer (some ⟨g, o + 1, none⟩)) := Pu.ok fun w => by kernel_rfl
theorem c1C (x : a8) : Pu Tryd.prog (xV (Instr.typeAssert (u7 x) 152 177 true)) (.tuple #[(Value.agg #[(Value.string ((((x.R9)).N8).g7)), (Value.int .i64 ((((x.R9)).N8).E0))]), .bool (x.a4c)]) := by
  cases x <;> exact Pu.ok fun w => by kernel_rfl
theorem b0s {g o : Nat} : Pu Tryd.prog (xV (Instr.fieldAt 177 (.pointer (some ⟨g, o, none⟩)) 0)) (.pointer (some ⟨g, o + 0, none⟩)) := Pu.ok fun w => by kernel_rfl
theorem a0B {g o : Nat} : Pu Tryd.prog (xV (Instr.fieldAt 58 (.pointer (some ⟨g, o, none⟩)) 0)) (.pointer (some ⟨g, o + 0, none⟩)) := Pu.ok fun w => by kernel_rfl
theorem c1D (x : a8) : Pu Tryd.prog (xV (Instr.typeAssert (u7 x) 152 179 true)) (.tuple #[(Value.agg #[(Value.int .i64 ((((x.j8)).i2).d9)), (Value.string ((((x.j8)).i2).g7)), (Value.slice ((((x.j8)).i2).m2).a ((((x.j8)).i2).m2).n ((((x.j8)).i2).m2).c), (Value.slice ((((x.j8)).i2).s8).a ((((x.j8)).i2).s8).n ((((x.j8)).i2).s8).c), (Value.slice ((((x.j8)).i2).K1).a ((((x.j8)).i2).K1).n ((((x.j8)).i2).K1).c), (Value.slice ((((x.j8)).i2).G8).a ((((x.j8)).i2).G8).n ((((x.j8)).i2).G8).c)]), .bool (x.a4d)]) := by
  cases x <;> exact Pu.ok fun w => by kernel_rfl
theorem K3 {g o : Nat} : Pu Tryd.prog (xV (Instr.fieldAt 179 (.pointer (some ⟨g, o, none⟩)) 0)) (.pointer (some ⟨g, o + 0, none⟩)) := Pu.ok fun w => by kernel_rfl
theorem c1E (x : a8) : Pu Tryd.prog (xV (Instr.typeAssert (u7 x) 152 123 true)) (.tuple #[(Value.agg #[(Value.int .i64 ((((x.r6)).m8).d9)), (Value.int .i64 ((((x.r6)).m8).K2)), (Value.string ((((x.r6)).m8).g7)), (Value.slice ((((x.r6)).m8).A7).a ((((x.r6)).m8).A7).n ((((x.r6)).m8).A7).c)]), .bool (x.a4b)]) := by
  cases x <;> exact Pu.ok fun w => by kernel_rfl
theorem V7 {g o : Nat} : Pu Tryd.prog (xV (Instr.fieldAt 123 (.pointer (some ⟨g, o, none⟩)) 0)) (.pointer (some ⟨g, o + 0, none⟩)) := Pu.ok fun w => by kernel_rfl
theorem c6R (a0 : Int) (w : World) : (Instr.buildSlice 45 1 #[(0, (Value.int .i64 a0))]).run Tryd.prog w = .ok (.slice (some ⟨w.heap.size, 0, none⟩) 1 1) (w.alloc (.cells [(Value.int .i64 a0)].toArray 2)) := by kernel_rfl
theorem a7G {g o : Nat} : Pu Tryd.prog (xV (Instr.fieldAt 90 (.pointer (some ⟨g, o, none⟩)) 2)) (.pointer (some ⟨g, o + 2, none⟩)) := Pu.ok fun w => by kernel_rfl
theorem a5J {g o : Nat} : Pu Tryd.prog (xV (Instr.fieldAt 90 (.pointer (some ⟨g, o, none⟩)) 3)) (.pointer (some ⟨g, o + 3, none⟩)) := Pu.ok fun w => by kernel_rfl
theorem c1F (a0 : Bool) (a1 : Int) : Pu Tryd.prog (xV (Instr.build 55 #[(0, (Value.bool a0)), (1, (Value.int .i64 a1))])) (.agg #[(Value.bool a0), (Value.int .i64 a1), (Value.bool false)]) := Pu.ok fun w => by kernel_rfl
abbrev T6 (x : a1h) : List Value := [(Value.bool x.e6B), (Value.int .i64 x.K2), (Value.bool x.g0q)]
theorem a6k (x : a1h) : (T6 x).length = 3 := rfl
theorem a6l (x : a1h) : (T6 x).all (·.oneCell') = true := rfl
theorem c6S (R3 : Bool) (R4 : Int) (a8m : Bool) (w : World) : (Instr.buildSlice 46 1 #[(0, (Value.agg #[(Value.bool R3), (Value.int .i64 R4), (Value.bool a8m)]))]).run Tryd.prog w = .ok (.slice (some ⟨w.heap.size, 0, none⟩) 1 1) (w.alloc (.cells [(Value.bool R3), (Value.int .i64 R4), (Value.bool a8m)].toArray 55)) := by kernel_rfl
theorem e6D : Tryd.prog.info? 55 = some ((Tryd.prog.info? 55).getD default) := by kernel_rfl
theorem d1p {E : Pan} {w0 w : World} {ps : Nat → Prop} {H0 H : Hp} {Fs : List Frag} {K : Value → World → Prop} {s : Sl} {xs : List a1h} {F : Frag} {t2 : Sl} {ys : List a1h} {ks : List Bool} {ty : TypeId} (I : Inv w0 ps H0 H (F :: Fs) w) (hr : RowL 55 3 T6 s xs F) (hs : SrcO w T6 t2 ys) (hb : (xs.length + ys.length) * 25 ≤ 140737488355328) (h : ∀ (s' : Sl) (F' : Frag) (w' : World), RowL 55 3 T6 s' (xs ++ ys) F' → Inv w0 ps H0 H (F' :: Fs) w' → (∀ k, k < w.heap.size → (∀ p ∈ F, p.1 ≠ k) → w'.heap[k]? = w.heap[k]?) → K (.slice s'.a s'.n s'.c) w') : opK Tryd.prog E (xBuiltin .append #[46, 46] ty ks [.slice s.a s.n s.c, .slice t2.a t2.n t2.c]) w K :=
  b4V (bytes := 24) Tryd.underlying46 e6D (z := (Value.agg #[(Value.bool false), (Value.int .i64 0), (Value.bool false)])) (by kernel_rfl) (by kernel_rfl) (by kernel_rfl) (by kernel_rfl) I hr hs hb h
theorem b1P {g o : Nat} : Pu Tryd.prog (xV (Instr.fieldAt 90 (.pointer (some ⟨g, o, none⟩)) 5)) (.pointer (some ⟨g, o + 5, none⟩)) := Pu.ok fun w => by kernel_rfl
theorem d1q {a : Option Addr} {g o : Nat} (ha : a = some ⟨g, o, none⟩) (len cap : Nat) (k : IntKind) (i : Int) (h0 : 0 ≤ i) (h1 : i < len) : Pu Tryd.prog (xV (Instr.indexAt 104 (.slice a len cap) (.int k i))) (.pointer (some ⟨g, o + i.toNat * 1, none⟩)) := a1g Tryd.underlying104 Tryd.sizeOf9 ha len cap k i h0 h1
theorem a0C {g o : Nat} : Pu Tryd.prog (xV (Instr.fieldAt 138 (.pointer (some ⟨g, o, none⟩)) 0)) (.pointer (some ⟨g, o + 0, none⟩)) := Pu.ok fun w => by kernel_rfl
theorem a4i (a0 : Int) (a1 : Int) : Pu Tryd.prog (xV (Instr.build 223 #[(0, (Value.int .i64 a0)), (1, (Value.int .i64 a1))])) (.agg #[(Value.int .i64 a0), (Value.int .i64 a1)]) := Pu.ok fun w => by kernel_rfl
theorem e0m (d : Nat) (a0 b0 : Int) (a1 b1 : Int) (w : World) : (Op.equalIn (d + 2) 223 (.agg #[(Value.int .i64 a0), (Value.int .i64 a1)]) (.agg #[(Value.int .i64 b0), (Value.int .i64 b1)])).run Tryd.prog w = .ok (decide (a0 = b0 ∧ a1 = b1)) w := by
  have u3 := Tryd.underlying3
  have i3 := Tryd.isAgg3
  have s3 := Tryd.sizeOf3
  have hS : Tryd.prog.underlying 223 = some (.struct (Tryd.prog.fieldsOf 223)) := by kernel_rfl
  rw [run_equalIn_agg w (d + 1) 223 _ _ hS (by kernel_rfl)]
  simp only [Program.fieldsOf, Tryd.underlying223]
  go_simp
  try simp only [c2s]
  by_cases h0 : a0 = b0
  · by_cases h1 : a1 = b1
    · simp [h0, h1]
    · simp [h0, h1]
  · simp [h0]
theorem a9V (x y : Operand) (a0 b0 : Int) (a1 b1 : Int) : Pu Tryd.prog (xBin .eql 223 x y (.agg #[(Value.int .i64 a0), (Value.int .i64 a1)]) (.agg #[(Value.int .i64 b0), (Value.int .i64 b1)])) (.bool (decide (a0 = b0 ∧ a1 = b1))) := by
  refine Pu.ok (s := do eqGuard .eql 223 x y (.agg #[(Value.int .i64 a0), (Value.int .i64 a1)]) (.agg #[(Value.int .i64 b0), (Value.int .i64 b1)]); binOp .eql 223 (.agg #[(Value.int .i64 a0), (Value.int .i64 a1)]) (.agg #[(Value.int .i64 b0), (Value.int .i64 b1)])) fun w => ?_
  rw [Sem.run_bind, run_eqGuard_agg w _ _ _ _ _ _ (by kernel_rfl), Result.andThen_ok, run_eql_struct, show (10000 : Nat) = 9998 + 2 from rfl, e0m]
  rfl
theorem c7U  : Pu Tryd.prog (xV (Instr.build 223 #[])) (.agg #[(Value.int .i64 0), (Value.int .i64 0)]) := Pu.ok fun w => by kernel_rfl
theorem a1z (a0 : Int) (a1 : Int) : Pu Tryd.prog (xV (Instr.build 227 #[(0, (Value.int .i64 a0)), (1, (Value.int .i64 a1))])) (.agg #[(Value.int .i64 a0), (Value.int .i64 a1)]) := Pu.ok fun w => by kernel_rfl
theorem e0n (d : Nat) (a0 b0 : Int) (a1 b1 : Int) (w : World) : (Op.equalIn (d + 2) 227 (.agg #[(Value.int .i64 a0), (Value.int .i64 a1)]) (.agg #[(Value.int .i64 b0), (Value.int .i64 b1)])).run Tryd.prog w = .ok (decide (a0 = b0 ∧ a1 = b1)) w := by
  have u3 := Tryd.underlying3
  have i3 := Tryd.isAgg3
  have s3 := Tryd.sizeOf3
  have hS : Tryd.prog.underlying 227 = some (.struct (Tryd.prog.fieldsOf 227)) := by kernel_rfl
  rw [run_equalIn_agg w (d + 1) 227 _ _ hS (by kernel_rfl)]
  simp only [Program.fieldsOf, Tryd.underlying227]
  go_simp
  try simp only [c2s]
  by_cases h0 : a0 = b0
  · by_cases h1 : a1 = b1
    · simp [h0, h1]
    · simp [h0, h1]
  · simp [h0]
theorem a5t (x y : Operand) (a0 b0 : Int) (a1 b1 : Int) : Pu Tryd.prog (xBin .eql 227 x y (.agg #[(Value.int .i64 a0), (Value.int .i64 a1)]) (.agg #[(Value.int .i64 b0), (Value.int .i64 b1)])) (.bool (decide (a0 = b0 ∧ a1 = b1))) := by
  refine Pu.ok (s := do eqGuard .eql 227 x y (.agg #[(Value.int .i64 a0), (Value.int .i64 a1)]) (.agg #[(Value.int .i64 b0), (Value.int .i64 b1)]); binOp .eql 227 (.agg #[(Value.int .i64 a0), (Value.int .i64 a1)]) (.agg #[(Value.int .i64 b0), (Value.int .i64 b1)])) fun w => ?_
  rw [Sem.run_bind, run_eqGuard_agg w _ _ _ _ _ _ (by kernel_rfl), Result.andThen_ok, run_eql_struct, show (10000 : Nat) = 9998 + 2 from rfl, e0n]
  rfl
theorem c7V  : Pu Tryd.prog (xV (Instr.build 227 #[])) (.agg #[(Value.int .i64 0), (Value.int .i64 0)]) := Pu.ok fun w => by kernel_rfl
theorem d4m (a0a : Option Addr) (a0n a0c : Nat) (a1a : Option Addr) (a1n a1c : Nat) (a2a : Option Addr) (a2n a2c : Nat) (a3a : Option Addr) (a3n a3c : Nat) (w : World) : (Instr.buildSlice 174 4 #[(0, (Value.slice a0a a0n a0c)), (1, (Value.slice a1a a1n a1c)), (2, (Value.slice a2a a2n a2c)), (3, (Value.slice a3a a3n a3c))]).run Tryd.prog w = .ok (.slice (some ⟨w.heap.size, 0, none⟩) 4 4) (w.alloc (.cells [(Value.slice a0a a0n a0c), (Value.slice a1a a1n a1c), (Value.slice a2a a2n a2c), (Value.slice a3a a3n a3c)].toArray 124)) := by kernel_rfl
abbrev q9 (x : C4) : List Value := [(Value.slice x.a4L.a x.a4L.n x.a4L.c), (Value.slice x.a6O.a x.a6O.n x.a6O.c)]
abbrev q7 (x : R2) : List Value := [(Value.int .i64 x.a4a), (Value.int .i64 x.b7O), (Value.int .i64 x.a5B), (Value.slice x.b0R.a x.b0R.n x.b0R.c), (Value.slice x.a2o.a x.a2o.n x.a2o.c), (Value.slice x.b0S.a x.b0S.n x.b0S.c)]
abbrev a4j (x : i7) : List Value := [(Value.int .i64 x.fnodes), (Value.int .i64 x.fdepth), (Value.int .i64 x.fe), (Value.bool x.fform), (Value.bool x.fnamed), (Value.slice x.fnames.a x.fnames.n x.fnames.c)]
end Go.Proofs.YtnhkdkcgdcgmdaaDoor
