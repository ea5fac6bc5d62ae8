/- Single operations at this program's types, and its structures; printed by lift.py. -/
import Derived.Test.YtnhkdkcgdcgmdaaDoorProg
import Derived.Test.YtnhkdkcgdcgmdaaDoorzLS5
import Derived.KernelRfl
import Derived.Laws.StructEq
import Derived.Laws.Tables
import Derived.Laws.Cover2
namespace Go.Proofs.YtnhkdkcgdcgmdaaDoor
open Go.RowKit
set_option maxRecDepth 100000
set_option maxHeartbeats 2000000
structure d8 where
  b9 : Int
  G8 : Int
  d6 : ByteArray
  z6 : Sl
structure o9 where
  b9 : Int
  fOp : Int
  i7 : Sl
  t7 : Sl
structure B0 where
  a4m : Sl
  a6s : Sl
structure N3 where
  a0Z : Int
  c1H : Int
  a4o : Int
  b0u : Sl
  W7 : Sl
  b0v : Sl
structure a0H where
  e4z : Bool
  G8 : Int
  f8m : Bool
structure j7 where
  d6 : ByteArray
  D3 : Int
structure o0 where
  b9 : Int
  d6 : ByteArray
  i7 : Sl
  r5 : Sl
  G7 : Sl
  G0 : Sl
structure g8 where
  fnodes : Int
  fdepth : Int
  fe : Int
  fform : Bool
  fnamed : Bool
  fnames : Sl
structure f8 where
  fl : Sl
structure b7 where
  fname : ByteArray
  fas : Int
structure D7 where
  l0 : d8
structure b5M where
  fn : Int
  fdepth : Int
  fbad : Int
structure b5N where
  fok : Bool
  fnames : Bool
structure K2 where
  j9 : o9
structure M8 where
  M9 : j7
structure K3 where
  d7 : o0
structure g4R where
  f0 : Int
  f1 : Int
structure D4 where
  fexprs : Int
  fparts : Int
structure K6 where
  fexprs : Int
  fconds : Int
inductive a8 where
  | nil
  | C2 (x : D7)
  | G3 (x : K2)
  | E8 (x : M8)
  | C8 (x : K3)
def t8 : a8 → Value
  | .nil => .nilIface
  | .C2 x => .iface 123 (.agg #[(Value.int .i64 x.l0.b9), (Value.int .i64 x.l0.G8), (Value.string x.l0.d6), (Value.slice x.l0.z6.a x.l0.z6.n x.l0.z6.c)])
  | .G3 x => .iface 138 (.agg #[(Value.int .i64 x.j9.b9), (Value.int .i64 x.j9.fOp), (Value.slice x.j9.i7.a x.j9.i7.n x.j9.i7.c), (Value.slice x.j9.t7.a x.j9.t7.n x.j9.t7.c)])
  | .E8 x => .iface 177 (.agg #[(Value.string x.M9.d6), (Value.int .i64 x.M9.D3)])
  | .C8 x => .iface 179 (.agg #[(Value.int .i64 x.d7.b9), (Value.string x.d7.d6), (Value.slice x.d7.i7.a x.d7.i7.n x.d7.i7.c), (Value.slice x.d7.r5.a x.d7.r5.n x.d7.r5.c), (Value.slice x.d7.G7.a x.d7.G7.n x.d7.G7.c), (Value.slice x.d7.G0.a x.d7.G0.n x.d7.G0.c)])
theorem c0Q (x : a8) : [t8 x].all (·.oneCell') = true := by cases x <;> rfl
def a8.p8 : a8 → D7
  | .C2 x => x
  | _ => (D7.mk (d8.mk 0 0 ⟨#[]⟩ (Sl.mk none 0 0)))
def a8.a3D : a8 → Bool
  | .C2 _ => true
  | _ => false
def a8.Q5 : a8 → M8
  | .E8 x => x
  | _ => (M8.mk (j7.mk ⟨#[]⟩ 0))
def a8.a3E : a8 → Bool
  | .E8 _ => true
  | _ => false
def a8.i6 : a8 → K3
  | .C8 x => x
  | _ => (K3.mk (o0.mk 0 ⟨#[]⟩ (Sl.mk none 0 0) (Sl.mk none 0 0) (Sl.mk none 0 0) (Sl.mk none 0 0)))
def a8.a3F : a8 → Bool
  | .C8 _ => true
  | _ => false
theorem U7 {g o : Nat} : Pu Tryd.prog (xV (Instr.fieldAt 24 (.pointer (some ⟨g, o, none⟩)) 0)) (.pointer (some ⟨g, o + 0, none⟩)) := Pu.ok fun w => by kernel_rfl
theorem a3G {g o : Nat} : Pu Tryd.prog (xV (Instr.fieldAt 24 (.pointer (some ⟨g, o, none⟩)) 3)) (.pointer (some ⟨g, o + 3, none⟩)) := Pu.ok fun w => by kernel_rfl
theorem a2s (a : Option Addr) (n c : Nat) : Pu Tryd.prog (xBuiltin .len #[22] 3 [false] [.slice a n c]) (.int .i64 (n : Int)) := a0o Tryd.underlying22 a n c
theorem a7e {g o : Nat} : Pu Tryd.prog (xV (Instr.fieldAt 27 (.pointer (some ⟨g, o, none⟩)) 0)) (.pointer (some ⟨g, o + 0, none⟩)) := Pu.ok fun w => by kernel_rfl
theorem a1C {g o : Nat} : Pu Tryd.prog (xV (Instr.fieldAt 27 (.pointer (some ⟨g, o, none⟩)) 3)) (.pointer (some ⟨g, o + 3, none⟩)) := Pu.ok fun w => by kernel_rfl
theorem a6A (a : Option Addr) (n c : Nat) : Pu Tryd.prog (xBuiltin .len #[25] 3 [false] [.slice a n c]) (.int .i64 (n : Int)) := a0o Tryd.underlying25 a n c
theorem a5g {g o : Nat} : Pu Tryd.prog (xV (Instr.fieldAt 27 (.pointer (some ⟨g, o, none⟩)) 2)) (.pointer (some ⟨g, o + 2, none⟩)) := Pu.ok fun w => by kernel_rfl
theorem a6B (a : Option Addr) (n c : Nat) : Pu Tryd.prog (xBuiltin .len #[45] 3 [false] [.slice a n c]) (.int .i64 (n : Int)) := a0o Tryd.underlying45 a n c
theorem b7m {g o : Nat} : Pu Tryd.prog (xV (Instr.fieldAt 49 (.pointer (some ⟨g, o, none⟩)) 2)) (.pointer (some ⟨g, o + 2, none⟩)) := Pu.ok fun w => by kernel_rfl
theorem b1j {g o : Nat} : Pu Tryd.prog (xV (Instr.fieldAt 49 (.pointer (some ⟨g, o, none⟩)) 0)) (.pointer (some ⟨g, o + 0, none⟩)) := Pu.ok fun w => by kernel_rfl
theorem R7 {a : Option Addr} {g o : Nat} (ha : a = some ⟨g, o, none⟩) (len cap : Nat) (k : IntKind) (i : Int) (h0 : 0 ≤ i) (h1 : i < len) : Pu Tryd.prog (xV (Instr.indexAt 45 (.slice a len cap) (.int k i))) (.pointer (some ⟨g, o + i.toNat * 1, none⟩)) := a0G Tryd.underlying45 Tryd.sizeOf2 ha len cap k i h0 h1
abbrev b5O (x : Int) : List Value := [(Value.int .i64 x)]
theorem d7G : Tryd.prog.info? 2 = some ((Tryd.prog.info? 2).getD default) := by kernel_rfl
theorem c9V {E : Pan} {w0 w : World} {ps : Nat → Prop} {H0 H : Hp} {Fs : List Frag} {K : Value → World → Prop} {s : Sl} {xs : List Int} {F : Frag} {t2 : Sl} {ys : List Int} {ks : List Bool} {ty : TypeId} (I : Inv w0 ps H0 H (F :: Fs) w) (hr : RowL 2 1 b5O s xs F) (hs : SrcO w b5O t2 ys) (hb : (xs.length + ys.length) * 9 ≤ 140737488355328) (h : ∀ (s' : Sl) (F' : Frag) (w' : World), RowL 2 1 b5O s' (xs ++ ys) F' → Inv w0 ps H0 H (F' :: Fs) w' → (∀ k, k < w.heap.size → (∀ p ∈ F, p.1 ≠ k) → w'.heap[k]? = w.heap[k]?) → K (.slice s'.a s'.n s'.c) w') : opK Tryd.prog E (xBuiltin .append #[45, 45] ty ks [.slice s.a s.n s.c, .slice t2.a t2.n t2.c]) w K :=
  b4v (bytes := 8) Tryd.underlying45 d7G (z := (Value.int .i64 0)) (by kernel_rfl) (by kernel_rfl) (by kernel_rfl) (by kernel_rfl) I hr hs hb h
theorem b5B (a0 : ByteArray) : Pu Tryd.prog (xV (Instr.build 58 #[(0, (Value.string a0))])) (.agg #[(Value.string a0), (Value.int .i64 0)]) := Pu.ok fun w => by kernel_rfl
abbrev m4 (x : j7) : List Value := [(Value.string x.d6), (Value.int .i64 x.D3)]
theorem b2B (x : j7) : (m4 x).length = 2 := rfl
theorem b2C (x : j7) : (m4 x).all (·.oneCell') = true := rfl
theorem c5M (Q1 : ByteArray) (Q2 : Int) (w : World) : (Instr.buildSlice 41 1 #[(0, (Value.agg #[(Value.string Q1), (Value.int .i64 Q2)]))]).run Tryd.prog w = .ok (.slice (some ⟨w.heap.size, 0, none⟩) 1 1) (w.alloc (.cells [(Value.string Q1), (Value.int .i64 Q2)].toArray 58)) := by kernel_rfl
abbrev i5 (x : o9) : List Value := [(Value.int .i64 x.b9), (Value.int .i64 x.fOp), (Value.slice x.i7.a x.i7.n x.i7.c), (Value.slice x.t7.a x.t7.n x.t7.c)]
theorem c0R (x : o9) : (i5 x).length = 4 := rfl
theorem c0S (x : o9) : (i5 x).all (·.oneCell') = true := rfl
theorem d8R (Q1 : Int) (Q2 : Int) (a0_2a : Option Addr) (a0_2n a0_2c : Nat) (a0_3a : Option Addr) (a0_3n a0_3c : Nat) (w : World) : (Instr.buildSlice 25 1 #[(0, (Value.agg #[(Value.int .i64 Q1), (Value.int .i64 Q2), (Value.slice a0_2a a0_2n a0_2c), (Value.slice a0_3a a0_3n a0_3c)]))]).run Tryd.prog w = .ok (.slice (some ⟨w.heap.size, 0, none⟩) 1 1) (w.alloc (.cells [(Value.int .i64 Q1), (Value.int .i64 Q2), (Value.slice a0_2a a0_2n a0_2c), (Value.slice a0_3a a0_3n a0_3c)].toArray 27)) := by kernel_rfl
abbrev d9 (x : o0) : List Value := [(Value.int .i64 x.b9), (Value.string x.d6), (Value.slice x.i7.a x.i7.n x.i7.c), (Value.slice x.r5.a x.r5.n x.r5.c), (Value.slice x.G7.a x.G7.n x.G7.c), (Value.slice x.G0.a x.G0.n x.G0.c)]
theorem a6O (x : o0) : (d9 x).length = 6 := rfl
theorem a6P (x : o0) : (d9 x).all (·.oneCell') = true := rfl
theorem c5N (Q1 : Int) (Q2 : ByteArray) (a0_2a : Option Addr) (a0_2n a0_2c : Nat) (a0_3a : Option Addr) (a0_3n a0_3c : Nat) (a0_4a : Option Addr) (a0_4n a0_4c : Nat) (a0_5a : Option Addr) (a0_5n a0_5c : Nat) (w : World) : (Instr.buildSlice 42 1 #[(0, (Value.agg #[(Value.int .i64 Q1), (Value.string Q2), (Value.slice a0_2a a0_2n a0_2c), (Value.slice a0_3a a0_3n a0_3c), (Value.slice a0_4a a0_4n a0_4c), (Value.slice a0_5a a0_5n a0_5c)]))]).run Tryd.prog w = .ok (.slice (some ⟨w.heap.size, 0, none⟩) 1 1) (w.alloc (.cells [(Value.int .i64 Q1), (Value.string Q2), (Value.slice a0_2a a0_2n a0_2c), (Value.slice a0_3a a0_3n a0_3c), (Value.slice a0_4a a0_4n a0_4c), (Value.slice a0_5a a0_5n a0_5c)].toArray 63)) := by kernel_rfl
theorem b7n (a0 : Int) (a3a : Option Addr) (a3n a3c : Nat) (a4a : Option Addr) (a4n a4c : Nat) : Pu Tryd.prog (xV (Instr.build 63 #[(0, (Value.int .i64 a0)), (3, (Value.slice a3a a3n a3c)), (4, (Value.slice a4a a4n a4c))])) (.agg #[(Value.int .i64 a0), (Value.string ⟨#[]⟩), (Value.slice none 0 0), (Value.slice a3a a3n a3c), (Value.slice a4a a4n a4c), (Value.slice none 0 0)]) := Pu.ok fun w => by kernel_rfl
theorem b2D (a0a : Option Addr) (a0n a0c : Nat) (a1a : Option Addr) (a1n a1c : Nat) : Pu Tryd.prog (xV (Instr.build 44 #[(0, (Value.slice a0a a0n a0c)), (1, (Value.slice a1a a1n a1c))])) (.agg #[(Value.slice a0a a0n a0c), (Value.slice a1a a1n a1c)]) := Pu.ok fun w => by kernel_rfl
theorem a3H {g o : Nat} : Pu Tryd.prog (xV (Instr.fieldAt 49 (.pointer (some ⟨g, o, none⟩)) 4)) (.pointer (some ⟨g, o + 4, none⟩)) := Pu.ok fun w => by kernel_rfl
abbrev b6 (x : d8) : List Value := [(Value.int .i64 x.b9), (Value.int .i64 x.G8), (Value.string x.d6), (Value.slice x.z6.a x.z6.n x.z6.c)]
theorem a0t (x : d8) : (b6 x).length = 4 := rfl
theorem a0u (x : d8) : (b6 x).all (·.oneCell') = true := rfl
theorem b8T (Q1 : Int) (Q2 : Int) (a7Q : ByteArray) (a0_3a : Option Addr) (a0_3n a0_3c : Nat) (c1I : Int) (c1J : Int) (e4A : ByteArray) (a1_3a : Option Addr) (a1_3n a1_3c : Nat) (w : World) : (Instr.buildSlice 22 2 #[(0, (Value.agg #[(Value.int .i64 Q1), (Value.int .i64 Q2), (Value.string a7Q), (Value.slice a0_3a a0_3n a0_3c)])), (1, (Value.agg #[(Value.int .i64 c1I), (Value.int .i64 c1J), (Value.string e4A), (Value.slice a1_3a a1_3n a1_3c)]))]).run Tryd.prog w = .ok (.slice (some ⟨w.heap.size, 0, none⟩) 2 2) (w.alloc (.cells [(Value.int .i64 Q1), (Value.int .i64 Q2), (Value.string a7Q), (Value.slice a0_3a a0_3n a0_3c), (Value.int .i64 c1I), (Value.int .i64 c1J), (Value.string e4A), (Value.slice a1_3a a1_3n a1_3c)].toArray 24)) := by kernel_rfl
theorem a5h (a0 : Int) (a1 : ByteArray) (a2a : Option Addr) (a2n a2c : Nat) : Pu Tryd.prog (xV (Instr.build 63 #[(0, (Value.int .i64 a0)), (1, (Value.string a1)), (2, (Value.slice a2a a2n a2c))])) (.agg #[(Value.int .i64 a0), (Value.string a1), (Value.slice a2a a2n a2c), (Value.slice none 0 0), (Value.slice none 0 0), (Value.slice none 0 0)]) := Pu.ok fun w => by kernel_rfl
theorem b4B (Q1 : Int) (Q2 : Int) (a7Q : ByteArray) (a0_3a : Option Addr) (a0_3n a0_3c : Nat) (w : World) : (Instr.buildSlice 22 1 #[(0, (Value.agg #[(Value.int .i64 Q1), (Value.int .i64 Q2), (Value.string a7Q), (Value.slice a0_3a a0_3n a0_3c)]))]).run Tryd.prog w = .ok (.slice (some ⟨w.heap.size, 0, none⟩) 1 1) (w.alloc (.cells [(Value.int .i64 Q1), (Value.int .i64 Q2), (Value.string a7Q), (Value.slice a0_3a a0_3n a0_3c)].toArray 24)) := by kernel_rfl
theorem d8S (Q1 : Int) (Q2 : ByteArray) (a0_2a : Option Addr) (a0_2n a0_2c : Nat) (a0_3a : Option Addr) (a0_3n a0_3c : Nat) (a0_4a : Option Addr) (a0_4n a0_4c : Nat) (a0_5a : Option Addr) (a0_5n a0_5c : Nat) (c1I : Int) (c1J : ByteArray) (a1_2a : Option Addr) (a1_2n a1_2c : Nat) (a1_3a : Option Addr) (a1_3n a1_3c : Nat) (a1_4a : Option Addr) (a1_4n a1_4c : Nat) (a1_5a : Option Addr) (a1_5n a1_5c : Nat) (w : World) : (Instr.buildSlice 42 2 #[(0, (Value.agg #[(Value.int .i64 Q1), (Value.string Q2), (Value.slice a0_2a a0_2n a0_2c), (Value.slice a0_3a a0_3n a0_3c), (Value.slice a0_4a a0_4n a0_4c), (Value.slice a0_5a a0_5n a0_5c)])), (1, (Value.agg #[(Value.int .i64 c1I), (Value.string c1J), (Value.slice a1_2a a1_2n a1_2c), (Value.slice a1_3a a1_3n a1_3c), (Value.slice a1_4a a1_4n a1_4c), (Value.slice a1_5a a1_5n a1_5c)]))]).run Tryd.prog w = .ok (.slice (some ⟨w.heap.size, 0, none⟩) 2 2) (w.alloc (.cells [(Value.int .i64 Q1), (Value.string Q2), (Value.slice a0_2a a0_2n a0_2c), (Value.slice a0_3a a0_3n a0_3c), (Value.slice a0_4a a0_4n a0_4c), (Value.slice a0_5a a0_5n a0_5c), (Value.int .i64 c1I), (Value.string c1J), (Value.slice a1_2a a1_2n a1_2c), (Value.slice a1_3a a1_3n a1_3c), (Value.slice a1_4a a1_4n a1_4c), (Value.slice a1_5a a1_5n a1_5c)].toArray 63)) := by kernel_rfl
theorem b7o {g o : Nat} : Pu Tryd.prog (xV (Instr.fieldAt 49 (.pointer (some ⟨g, o, none⟩)) 5)) (.pointer (some ⟨g, o + 5, none⟩)) := Pu.ok fun w => by kernel_rfl
theorem a6Q (a0 : Int) (a3a : Option Addr) (a3n a3c : Nat) : Pu Tryd.prog (xV (Instr.build 24 #[(0, (Value.int .i64 a0)), (3, (Value.slice a3a a3n a3c))])) (.agg #[(Value.int .i64 a0), (Value.int .i64 0), (Value.string ⟨#[]⟩), (Value.slice a3a a3n a3c)]) := Pu.ok fun w => by kernel_rfl
theorem b2E (a0 : Int) (a2 : ByteArray) : Pu Tryd.prog (xV (Instr.build 24 #[(0, (Value.int .i64 a0)), (2, (Value.string a2))])) (.agg #[(Value.int .i64 a0), (Value.int .i64 0), (Value.string a2), (Value.slice none 0 0)]) := Pu.ok fun w => by kernel_rfl
theorem b7p (a0 : Int) (a1 : Int) (a2a : Option Addr) (a2n a2c : Nat) : Pu Tryd.prog (xV (Instr.build 27 #[(0, (Value.int .i64 a0)), (1, (Value.int .i64 a1)), (2, (Value.slice a2a a2n a2c))])) (.agg #[(Value.int .i64 a0), (Value.int .i64 a1), (Value.slice a2a a2n a2c), (Value.slice none 0 0)]) := Pu.ok fun w => by kernel_rfl
theorem a1f {a : Option Addr} {g o : Nat} (ha : a = some ⟨g, o, none⟩) (len cap : Nat) (k : IntKind) (i : Int) (h0 : 0 ≤ i) (h1 : i < len) : Pu Tryd.prog (xV (Instr.indexAt 22 (.slice a len cap) (.int k i))) (.pointer (some ⟨g, o + i.toNat * 4, none⟩)) := a0G Tryd.underlying22 Tryd.sizeOf24 ha len cap k i h0 h1
theorem a7f {g o : Nat} : Pu Tryd.prog (xV (Instr.fieldAt 24 (.pointer (some ⟨g, o, none⟩)) 1)) (.pointer (some ⟨g, o + 1, none⟩)) := Pu.ok fun w => by kernel_rfl
theorem a3I {g o : Nat} : Pu Tryd.prog (xV (Instr.fieldAt 24 (.pointer (some ⟨g, o, none⟩)) 2)) (.pointer (some ⟨g, o + 2, none⟩)) := Pu.ok fun w => by kernel_rfl
theorem a7g {g o : Nat} : Pu Tryd.prog (xV (Instr.fieldAt 27 (.pointer (some ⟨g, o, none⟩)) 1)) (.pointer (some ⟨g, o + 1, none⟩)) := Pu.ok fun w => by kernel_rfl
theorem a2w {a : Option Addr} {g o : Nat} (ha : a = some ⟨g, o, none⟩) (len cap : Nat) (k : IntKind) (i : Int) (h0 : 0 ≤ i) (h1 : i < len) : Pu Tryd.prog (xV (Instr.indexAt 25 (.slice a len cap) (.int k i))) (.pointer (some ⟨g, o + i.toNat * 4, none⟩)) := a0G Tryd.underlying25 Tryd.sizeOf27 ha len cap k i h0 h1
theorem a4w (a0 : Int) (a1 : Int) : Pu Tryd.prog (xV (Instr.build 24 #[(0, (Value.int .i64 a0)), (1, (Value.int .i64 a1))])) (.agg #[(Value.int .i64 a0), (Value.int .i64 a1), (Value.string ⟨#[]⟩), (Value.slice none 0 0)]) := Pu.ok fun w => by kernel_rfl
theorem d2T (x y : Operand) (a b : Bool) : Pu Tryd.prog (xBin .eql 4 x y (.bool a) (.bool b)) (.bool (a == b)) := e4s _ _ _ a b Tryd.underlying4
theorem b1k (x y : Operand) (a b : Bool) : Pu Tryd.prog (xBin .neq 4 x y (.bool a) (.bool b)) (.bool (a != b)) := e4t _ _ _ a b Tryd.underlying4
theorem b1l {g o : Nat} : Pu Tryd.prog (xV (Instr.fieldAt 44 (.pointer (some ⟨g, o, none⟩)) 1)) (.pointer (some ⟨g, o + 1, none⟩)) := Pu.ok fun w => by kernel_rfl
theorem a4p {g o : Nat} : Pu Tryd.prog (xV (Instr.fieldAt 106 (.pointer (some ⟨g, o, none⟩)) 2)) (.pointer (some ⟨g, o + 2, none⟩)) := Pu.ok fun w => by kernel_rfl
theorem b5C {g o : Nat} : Pu Tryd.prog (xV (Instr.fieldAt 106 (.pointer (some ⟨g, o, none⟩)) 1)) (.pointer (some ⟨g, o + 1, none⟩)) := Pu.ok fun w => by kernel_rfl
theorem a9P {g o : Nat} : Pu Tryd.prog (xV (Instr.fieldAt 106 (.pointer (some ⟨g, o, none⟩)) 0)) (.pointer (some ⟨g, o + 0, none⟩)) := Pu.ok fun w => by kernel_rfl
theorem a7h {g o : Nat} : Pu Tryd.prog (xV (Instr.fieldAt 44 (.pointer (some ⟨g, o, none⟩)) 0)) (.pointer (some ⟨g, o + 0, none⟩)) := Pu.ok fun w => by kernel_rfl
theorem c6O  : Pu Tryd.prog (xV (Instr.build 114 #[])) (.agg #[(Value.slice none 0 0)]) := Pu.ok fun w => by kernel_rfl
abbrev o8 (x : b7) : List Value := [(Value.string x.fname), (Value.int .i64 x.fas)]
theorem a2Z (x : b7) : (o8 x).length = 2 := rfl
theorem a3b (x : b7) : (o8 x).all (·.oneCell') = true := rfl
theorem a4X (a : Option Addr) (n c : Nat) : Pu Tryd.prog (xBuiltin .len #[42] 3 [false] [.slice a n c]) (.int .i64 (n : Int)) := a0o Tryd.underlying42 a n c
theorem b5P {a : Option Addr} {g o : Nat} (ha : a = some ⟨g, o, none⟩) (len cap : Nat) (k : IntKind) (i : Int) (h0 : 0 ≤ i) (h1 : i < len) : Pu Tryd.prog (xV (Instr.indexAt 42 (.slice a len cap) (.int k i))) (.pointer (some ⟨g, o + i.toNat * 6, none⟩)) := a0G Tryd.underlying42 Tryd.sizeOf63 ha len cap k i h0 h1
theorem a5i {g o : Nat} : Pu Tryd.prog (xV (Instr.fieldAt 63 (.pointer (some ⟨g, o, none⟩)) 0)) (.pointer (some ⟨g, o + 0, none⟩)) := Pu.ok fun w => by kernel_rfl
theorem a0f {g o : Nat} : Pu Tryd.prog (xV (Instr.fieldAt 114 (.pointer (some ⟨g, o, none⟩)) 0)) (.pointer (some ⟨g, o + 0, none⟩)) := Pu.ok fun w => by kernel_rfl
theorem a1D {g o : Nat} : Pu Tryd.prog (xV (Instr.fieldAt 63 (.pointer (some ⟨g, o, none⟩)) 1)) (.pointer (some ⟨g, o + 1, none⟩)) := Pu.ok fun w => by kernel_rfl
theorem a3J (a0 : ByteArray) (a1 : Int) : Pu Tryd.prog (xV (Instr.build 117 #[(0, (Value.string a0)), (1, (Value.int .i64 a1))])) (.agg #[(Value.string a0), (Value.int .i64 a1)]) := Pu.ok fun w => by kernel_rfl
theorem b1m (Q1 : ByteArray) (Q2 : Int) (w : World) : (Instr.buildSlice 112 1 #[(0, (Value.agg #[(Value.string Q1), (Value.int .i64 Q2)]))]).run Tryd.prog w = .ok (.slice (some ⟨w.heap.size, 0, none⟩) 1 1) (w.alloc (.cells [(Value.string Q1), (Value.int .i64 Q2)].toArray 117)) := by kernel_rfl
theorem d8T : Tryd.prog.info? 117 = some ((Tryd.prog.info? 117).getD default) := by kernel_rfl
theorem b4C {E : Pan} {w0 w : World} {ps : Nat → Prop} {H0 H : Hp} {Fs : List Frag} {K : Value → World → Prop} {s : Sl} {xs : List b7} {F : Frag} {t2 : Sl} {ys : List b7} {ks : List Bool} {ty : TypeId} (I : Inv w0 ps H0 H (F :: Fs) w) (hr : RowL 117 2 o8 s xs F) (hs : SrcO w o8 t2 ys) (hb : (xs.length + ys.length) * 25 ≤ 140737488355328) (h : ∀ (s' : Sl) (F' : Frag) (w' : World), RowL 117 2 o8 s' (xs ++ ys) F' → Inv w0 ps H0 H (F' :: Fs) w' → (∀ k, k < w.heap.size → (∀ p ∈ F, p.1 ≠ k) → w'.heap[k]? = w.heap[k]?) → K (.slice s'.a s'.n s'.c) w') : opK Tryd.prog E (xBuiltin .append #[112, 112] ty ks [.slice s.a s.n s.c, .slice t2.a t2.n t2.c]) w K :=
  b4v (bytes := 24) Tryd.underlying112 d8T (z := (Value.agg #[(Value.string ⟨#[]⟩), (Value.int .i64 0)])) (by kernel_rfl) (by kernel_rfl) (by kernel_rfl) (by kernel_rfl) I hr hs hb h
theorem a7i {g o : Nat} : Pu Tryd.prog (xV (Instr.fieldAt 63 (.pointer (some ⟨g, o, none⟩)) 3)) (.pointer (some ⟨g, o + 3, none⟩)) := Pu.ok fun w => by kernel_rfl
theorem a5j {g o : Nat} : Pu Tryd.prog (xV (Instr.fieldAt 63 (.pointer (some ⟨g, o, none⟩)) 2)) (.pointer (some ⟨g, o + 2, none⟩)) := Pu.ok fun w => by kernel_rfl
theorem a5k {g o : Nat} : Pu Tryd.prog (xV (Instr.fieldAt 63 (.pointer (some ⟨g, o, none⟩)) 4)) (.pointer (some ⟨g, o + 4, none⟩)) := Pu.ok fun w => by kernel_rfl
theorem a5l {g o : Nat} : Pu Tryd.prog (xV (Instr.fieldAt 63 (.pointer (some ⟨g, o, none⟩)) 5)) (.pointer (some ⟨g, o + 5, none⟩)) := Pu.ok fun w => by kernel_rfl
theorem c9W {a : Option Addr} {g o : Nat} (ha : a = some ⟨g, o, none⟩) (len cap : Nat) (k : IntKind) (i : Int) (h0 : 0 ≤ i) (h1 : i < len) : Pu Tryd.prog (xV (Instr.indexAt 112 (.slice a len cap) (.int k i))) (.pointer (some ⟨g, o + i.toNat * 2, none⟩)) := a0G Tryd.underlying112 Tryd.sizeOf117 ha len cap k i h0 h1
theorem a9Q {g o : Nat} : Pu Tryd.prog (xV (Instr.fieldAt 117 (.pointer (some ⟨g, o, none⟩)) 0)) (.pointer (some ⟨g, o + 0, none⟩)) := Pu.ok fun w => by kernel_rfl
theorem c5x {g o : Nat} : Pu Tryd.prog (xV (Instr.fieldAt 117 (.pointer (some ⟨g, o, none⟩)) 1)) (.pointer (some ⟨g, o + 1, none⟩)) := Pu.ok fun w => by kernel_rfl
theorem c1K (Q1 : Int) (Q2 : Int) (a7Q : ByteArray) (a0_3a : Option Addr) (a0_3n a0_3c : Nat) : Pu Tryd.prog (xV (Instr.build 123 #[(0, (Value.agg #[(Value.int .i64 Q1), (Value.int .i64 Q2), (Value.string a7Q), (Value.slice a0_3a a0_3n a0_3c)]))])) (.agg #[(Value.int .i64 Q1), (Value.int .i64 Q2), (Value.string a7Q), (Value.slice a0_3a a0_3n a0_3c)]) := Pu.ok fun w => by kernel_rfl
theorem b0w (x : D7) : Pu Tryd.prog (xV (Instr.makeInterface 123 (.agg #[(Value.int .i64 x.l0.b9), (Value.int .i64 x.l0.G8), (Value.string x.l0.d6), (Value.slice x.l0.z6.a x.l0.z6.n x.l0.z6.c)]))) (t8 (a8.C2 x)) := Pu.ok fun w => rfl
abbrev o3 (x : a8) : List Value := [(t8 x)]
theorem M0 (x : a8) : (o3 x).length = 1 := rfl
theorem O2 (x : a8) : (o3 x).all (·.oneCell') = true := c0Q x
theorem b1n (a0 : a8) (w : World) : (Instr.buildSlice 124 1 #[(0, (t8 a0))]).run Tryd.prog w = .ok (.slice (some ⟨w.heap.size, 0, none⟩) 1 1) (w.alloc (.cells [(t8 a0)].toArray 152)) := by cases a0 <;> kernel_rfl
theorem c1L (Q1 : Int) (Q2 : Int) (a0_2a : Option Addr) (a0_2n a0_2c : Nat) (a0_3a : Option Addr) (a0_3n a0_3c : Nat) : Pu Tryd.prog (xV (Instr.build 138 #[(0, (Value.agg #[(Value.int .i64 Q1), (Value.int .i64 Q2), (Value.slice a0_2a a0_2n a0_2c), (Value.slice a0_3a a0_3n a0_3c)]))])) (.agg #[(Value.int .i64 Q1), (Value.int .i64 Q2), (Value.slice a0_2a a0_2n a0_2c), (Value.slice a0_3a a0_3n a0_3c)]) := Pu.ok fun w => by kernel_rfl
theorem b8U (x : K2) : Pu Tryd.prog (xV (Instr.makeInterface 138 (.agg #[(Value.int .i64 x.j9.b9), (Value.int .i64 x.j9.fOp), (Value.slice x.j9.i7.a x.j9.i7.n x.j9.i7.c), (Value.slice x.j9.t7.a x.j9.t7.n x.j9.t7.c)]))) (t8 (a8.G3 x)) := Pu.ok fun w => rfl
theorem b7q (k : IntKind) (n : Int) : Pu Tryd.prog (xV (convert 2 96 (.int k n))) (.int .u64 (IntKind.wrap .u64 n)) := Pu.ok fun w => run_convert_int (P := Tryd.prog) (w := w) 2 96 k n (by rw [Tryd.underlying2]; rfl) Tryd.underlying96
theorem c1M (a0a : Option Addr) (a0n a0c : Nat) (a1a : Option Addr) (a1n a1c : Nat) (w : World) : (Instr.buildSlice 174 2 #[(0, (Value.slice a0a a0n a0c)), (1, (Value.slice a1a a1n a1c))]).run Tryd.prog w = .ok (.slice (some ⟨w.heap.size, 0, none⟩) 2 2) (w.alloc (.cells [(Value.slice a0a a0n a0c), (Value.slice a1a a1n a1c)].toArray 124)) := by kernel_rfl
theorem a9x (a : Option Addr) (n c : Nat) : Pu Tryd.prog (xBuiltin .len #[41] 3 [false] [.slice a n c]) (.int .i64 (n : Int)) := a0o Tryd.underlying41 a n c
theorem b1o {a : Option Addr} {g o : Nat} (ha : a = some ⟨g, o, none⟩) (len cap : Nat) (k : IntKind) (i : Int) (h0 : 0 ≤ i) (h1 : i < len) : Pu Tryd.prog (xV (Instr.indexAt 41 (.slice a len cap) (.int k i))) (.pointer (some ⟨g, o + i.toNat * 2, none⟩)) := a0G Tryd.underlying41 Tryd.sizeOf58 ha len cap k i h0 h1
theorem c6P  : Pu Tryd.prog (xV (Instr.build 106 #[])) (.agg #[(Value.int .i64 0), (Value.int .i64 0), (Value.int .i64 0), (Value.bool false), (Value.bool false), (Value.slice none 0 0)]) := Pu.ok fun w => by kernel_rfl
abbrev C1 (x : ByteArray) : List Value := [(Value.string x)]
theorem b5D (x : ByteArray) : (C1 x).length = 1 := rfl
theorem b5E (x : ByteArray) : (C1 x).all (·.oneCell') = true := rfl
theorem a7j (a : Option Addr) (n c : Nat) : Pu Tryd.prog (xBuiltin .len #[124] 3 [false] [.slice a n c]) (.int .i64 (n : Int)) := a0o Tryd.underlying124 a n c
theorem c9X {a : Option Addr} {g o : Nat} (ha : a = some ⟨g, o, none⟩) (len cap : Nat) (k : IntKind) (i : Int) (h0 : 0 ≤ i) (h1 : i < len) : Pu Tryd.prog (xV (Instr.indexAt 124 (.slice a len cap) (.int k i))) (.pointer (some ⟨g, o + i.toNat * 1, none⟩)) := a0G Tryd.underlying124 Tryd.sizeOf152 ha len cap k i h0 h1
theorem a9R {g o : Nat} : Pu Tryd.prog (xV (Instr.fieldAt 106 (.pointer (some ⟨g, o, none⟩)) 3)) (.pointer (some ⟨g, o + 3, none⟩)) := Pu.ok fun w => by kernel_rfl
theorem a9S {g o : Nat} : Pu Tryd.prog (xV (Instr.fieldAt 106 (.pointer (some ⟨g, o, none⟩)) 4)) (.pointer (some ⟨g, o + 4, none⟩)) := Pu.ok fun w => by kernel_rfl
theorem a9T {g o : Nat} : Pu Tryd.prog (xV (Instr.fieldAt 106 (.pointer (some ⟨g, o, none⟩)) 5)) (.pointer (some ⟨g, o + 5, none⟩)) := Pu.ok fun w => by kernel_rfl
theorem d2U (a0 : ByteArray) (w : World) : (Instr.buildSlice 104 1 #[(0, (Value.string a0))]).run Tryd.prog w = .ok (.slice (some ⟨w.heap.size, 0, none⟩) 1 1) (w.alloc (.cells [(Value.string a0)].toArray 9)) := by kernel_rfl
theorem f8n : Tryd.prog.info? 9 = some ((Tryd.prog.info? 9).getD default) := by kernel_rfl
theorem d8U {E : Pan} {w0 w : World} {ps : Nat → Prop} {H0 H : Hp} {Fs : List Frag} {K : Value → World → Prop} {s : Sl} {xs : List ByteArray} {F : Frag} {t2 : Sl} {ys : List ByteArray} {ks : List Bool} {ty : TypeId} (I : Inv w0 ps H0 H (F :: Fs) w) (hr : RowL 9 1 C1 s xs F) (hs : SrcO w C1 t2 ys) (hb : (xs.length + ys.length) * 17 ≤ 140737488355328) (h : ∀ (s' : Sl) (F' : Frag) (w' : World), RowL 9 1 C1 s' (xs ++ ys) F' → Inv w0 ps H0 H (F' :: Fs) w' → (∀ k, k < w.heap.size → (∀ p ∈ F, p.1 ≠ k) → w'.heap[k]? = w.heap[k]?) → K (.slice s'.a s'.n s'.c) w') : opK Tryd.prog E (xBuiltin .append #[104, 104] ty ks [.slice s.a s.n s.c, .slice t2.a t2.n t2.c]) w K :=
  b4v (bytes := 16) Tryd.underlying104 f8n (z := (Value.string ⟨#[]⟩)) (by kernel_rfl) (by kernel_rfl) (by kernel_rfl) (by kernel_rfl) I hr hs hb h
theorem a3f : Pu Tryd.prog (xV (Instr.build 171 #[(0, (Value.func (.func 123) #[] #[])), (1, (Value.func (.func 124) #[] #[])), (2, (Value.func (.func 125) #[] #[])), (3, (Value.func (.func 126) #[] #[])), (4, (Value.func (.func 127) #[] #[])), (5, (Value.func (.func 128) #[] #[])), (6, (Value.func (.func 129) #[] #[]))])) (.agg #[(Value.func (.func 123) #[] #[]), (Value.func (.func 124) #[] #[]), (Value.func (.func 125) #[] #[]), (Value.func (.func 126) #[] #[]), (Value.func (.func 127) #[] #[]), (Value.func (.func 128) #[] #[]), (Value.func (.func 129) #[] #[])]) := Pu.ok fun w => by kernel_rfl
theorem Q4 (k : IntKind) (i : Int) (h0 : 0 ≤ i) (h1 : i < 7) : Pu Tryd.prog (xV (Instr.index 171 (.agg #[(Value.func (.func 123) #[] #[]), (Value.func (.func 124) #[] #[]), (Value.func (.func 125) #[] #[]), (Value.func (.func 126) #[] #[]), (Value.func (.func 127) #[] #[]), (Value.func (.func 128) #[] #[]), (Value.func (.func 129) #[] #[])]) (.int k i))) (([(Value.func (.func 123) #[] #[]), (Value.func (.func 124) #[] #[]), (Value.func (.func 125) #[] #[]), (Value.func (.func 126) #[] #[]), (Value.func (.func 127) #[] #[]), (Value.func (.func 128) #[] #[]), (Value.func (.func 129) #[] #[])] : List Value).getD i.toNat undef) := by
  obtain rfl | rfl | rfl | rfl | rfl | rfl | rfl := (by omega : i = 0 ∨ i = 1 ∨ i = 2 ∨ i = 3 ∨ i = 4 ∨ i = 5 ∨ i = 6)
  · exact Pu.ok fun w => by kernel_rfl
  · exact Pu.ok fun w => by kernel_rfl
  · exact Pu.ok fun w => by kernel_rfl
  · exact Pu.ok fun w => by kernel_rfl
  · exact Pu.ok fun w => by kernel_rfl
  · exact Pu.ok fun w => by kernel_rfl
  · exact Pu.ok fun w => by kernel_rfl
theorem a7k {g o : Nat} : Pu Tryd.prog (xV (Instr.fieldAt 90 (.pointer (some ⟨g, o, none⟩)) 4)) (.pointer (some ⟨g, o + 4, none⟩)) := Pu.ok fun w => by kernel_rfl
theorem b1p {g o : Nat} : Pu Tryd.prog (xV (Instr.fieldAt 90 (.pointer (some ⟨g, o, none⟩)) 0)) (.pointer (some ⟨g, o + 0, none⟩)) := Pu.ok fun w => by kernel_rfl
theorem c0T (a0 : Int) (a1 : Int) : Pu Tryd.prog (xV (Instr.build 93 #[(0, (Value.int .i64 a0)), (1, (Value.int .i64 a1))])) (.agg #[(Value.int .i64 a0), (Value.int .i64 a1)]) := Pu.ok fun w => by kernel_rfl
theorem b1q {g o : Nat} : Pu Tryd.prog (xV (Instr.fieldAt 90 (.pointer (some ⟨g, o, none⟩)) 1)) (.pointer (some ⟨g, o + 1, none⟩)) := Pu.ok fun w => by kernel_rfl
theorem b7r (a : Option Addr) (n c : Nat) : Pu Tryd.prog (xBuiltin .len #[174] 3 [false] [.slice a n c]) (.int .i64 (n : Int)) := a0o Tryd.underlying174 a n c
theorem c0v {a : Option Addr} {g o : Nat} (ha : a = some ⟨g, o, none⟩) (len cap : Nat) (k : IntKind) (i : Int) (h0 : 0 ≤ i) (h1 : i < len) : Pu Tryd.prog (xV (Instr.indexAt 174 (.slice a len cap) (.int k i))) (.pointer (some ⟨g, o + i.toNat * 1, none⟩)) := a0G Tryd.underlying174 Tryd.sizeOf124 ha len cap k i h0 h1
theorem c9Y (s : ByteArray) : Pu Tryd.prog (xV (Instr.makeInterface 9 (.string s))) (.iface 9 (.string s)) := Pu.ok fun w => by kernel_rfl
theorem c5O : Tryd.prog.info? 152 = some ((Tryd.prog.info? 152).getD default) := by kernel_rfl
theorem b0x {E : Pan} {w0 w : World} {ps : Nat → Prop} {H0 H : Hp} {Fs : List Frag} {K : Value → World → Prop} {s : Sl} {xs : List a8} {F : Frag} {t2 : Sl} {ys : List a8} {ks : List Bool} {ty : TypeId} (I : Inv w0 ps H0 H (F :: Fs) w) (hr : RowL 152 1 o3 s xs F) (hs : SrcO w o3 t2 ys) (hb : (xs.length + ys.length) * 17 ≤ 140737488355328) (h : ∀ (s' : Sl) (F' : Frag) (w' : World), RowL 152 1 o3 s' (xs ++ ys) F' → Inv w0 ps H0 H (F' :: Fs) w' → (∀ k, k < w.heap.size → (∀ p ∈ F, p.1 ≠ k) → w'.heap[k]? = w.heap[k]?) → K (.slice s'.a s'.n s'.c) w') : opK Tryd.prog E (xBuiltin .append #[124, 124] ty ks [.slice s.a s.n s.c, .slice t2.a t2.n t2.c]) w K :=
  b4v (bytes := 16) Tryd.underlying124 c5O (z := Value.nilIface) (by kernel_rfl) (by kernel_rfl) (by kernel_rfl) (by kernel_rfl) I hr hs hb h
theorem c1N (Q1 : ByteArray) (Q2 : Int) : Pu Tryd.prog (xV (Instr.build 177 #[(0, (Value.agg #[(Value.string Q1), (Value.int .i64 Q2)]))])) (.agg #[(Value.string Q1), (Value.int .i64 Q2)]) := Pu.ok fun w => by kernel_rfl
theorem b8V (x : M8) : Pu Tryd.prog (xV (Instr.makeInterface 177 (.agg #[(Value.string x.M9.d6), (Value.int .i64 x.M9.D3)]))) (t8 (a8.E8 x)) := Pu.ok fun w => rfl
theorem c1O (Q1 : Int) (Q2 : ByteArray) (a0_2a : Option Addr) (a0_2n a0_2c : Nat) (a0_3a : Option Addr) (a0_3n a0_3c : Nat) (a0_4a : Option Addr) (a0_4n a0_4c : Nat) (a0_5a : Option Addr) (a0_5n a0_5c : Nat) : Pu Tryd.prog (xV (Instr.build 179 #[(0, (Value.agg #[(Value.int .i64 Q1), (Value.string Q2), (Value.slice a0_2a a0_2n a0_2c), (Value.slice a0_3a a0_3n a0_3c), (Value.slice a0_4a a0_4n a0_4c), (Value.slice a0_5a a0_5n a0_5c)]))])) (.agg #[(Value.int .i64 Q1), (Value.string Q2), (Value.slice a0_2a a0_2n a0_2c), (Value.slice a0_3a a0_3n a0_3c), (Value.slice a0_4a a0_4n a0_4c), (Value.slice a0_5a a0_5n a0_5c)]) := Pu.ok fun w => by kernel_rfl
theorem b8W (x : K3) : Pu Tryd.prog (xV (Instr.makeInterface 179 (.agg #[(Value.int .i64 x.d7.b9), (Value.string x.d7.d6), (Value.slice x.d7.i7.a x.d7.i7.n x.d7.i7.c), (Value.slice x.d7.r5.a x.d7.r5.n x.d7.r5.c), (Value.slice x.d7.G7.a x.d7.G7.n x.d7.G7.c), (Value.slice x.d7.G0.a x.d7.G0.n x.d7.G0.c)]))) (t8 (a8.C8 x)) := Pu.ok fun w => rfl
theorem a2x {g o : Nat} : Pu Tryd.prog (xV (Instr.fieldAt 58 (.pointer (some ⟨g, o, none⟩)) 1)) (.pointer (some ⟨g, o + 1, none⟩)) := Pu.ok fun w => by kernel_rfl
theorem c0U (x : a8) : Pu Tryd.prog (xV (Instr.typeAssert (t8 x) 152 177 true)) (.tuple #[(Value.agg #[(Value.string ((((x.Q5)).M9).d6)), (Value.int .i64 ((((x.Q5)).M9).D3))]), .bool (x.a3E)]) := by
  cases x <;> exact Pu.ok fun w => by kernel_rfl
theorem a9U {g o : Nat} : Pu Tryd.prog (xV (Instr.fieldAt 177 (.pointer (some ⟨g, o, none⟩)) 0)) (.pointer (some ⟨g, o + 0, none⟩)) := Pu.ok fun w => by kernel_rfl
theorem a0g {g o : Nat} : Pu Tryd.prog (xV (Instr.fieldAt 58 (.pointer (some ⟨g, o, none⟩)) 0)) (.pointer (some ⟨g, o + 0, none⟩)) := Pu.ok fun w => by kernel_rfl
theorem c0V (x : a8) : Pu Tryd.prog (xV (Instr.typeAssert (t8 x) 152 179 true)) (.tuple #[(Value.agg #[(Value.int .i64 ((((x.i6)).d7).b9)), (Value.string ((((x.i6)).d7).d6)), (Value.slice ((((x.i6)).d7).i7).a ((((x.i6)).d7).i7).n ((((x.i6)).d7).i7).c), (Value.slice ((((x.i6)).d7).r5).a ((((x.i6)).d7).r5).n ((((x.i6)).d7).r5).c), (Value.slice ((((x.i6)).d7).G7).a ((((x.i6)).d7).G7).n ((((x.i6)).d7).G7).c), (Value.slice ((((x.i6)).d7).G0).a ((((x.i6)).d7).G0).n ((((x.i6)).d7).G0).c)]), .bool (x.a3F)]) := by
  cases x <;> exact Pu.ok fun w => by kernel_rfl
theorem G9 {g o : Nat} : Pu Tryd.prog (xV (Instr.fieldAt 179 (.pointer (some ⟨g, o, none⟩)) 0)) (.pointer (some ⟨g, o + 0, none⟩)) := Pu.ok fun w => by kernel_rfl
theorem c0W (x : a8) : Pu Tryd.prog (xV (Instr.typeAssert (t8 x) 152 123 true)) (.tuple #[(Value.agg #[(Value.int .i64 ((((x.p8)).l0).b9)), (Value.int .i64 ((((x.p8)).l0).G8)), (Value.string ((((x.p8)).l0).d6)), (Value.slice ((((x.p8)).l0).z6).a ((((x.p8)).l0).z6).n ((((x.p8)).l0).z6).c)]), .bool (x.a3D)]) := by
  cases x <;> exact Pu.ok fun w => by kernel_rfl
theorem U4 {g o : Nat} : Pu Tryd.prog (xV (Instr.fieldAt 123 (.pointer (some ⟨g, o, none⟩)) 0)) (.pointer (some ⟨g, o + 0, none⟩)) := Pu.ok fun w => by kernel_rfl
theorem c5P (a0 : Int) (w : World) : (Instr.buildSlice 45 1 #[(0, (Value.int .i64 a0))]).run Tryd.prog w = .ok (.slice (some ⟨w.heap.size, 0, none⟩) 1 1) (w.alloc (.cells [(Value.int .i64 a0)].toArray 2)) := by kernel_rfl
theorem a7l {g o : Nat} : Pu Tryd.prog (xV (Instr.fieldAt 90 (.pointer (some ⟨g, o, none⟩)) 2)) (.pointer (some ⟨g, o + 2, none⟩)) := Pu.ok fun w => by kernel_rfl
theorem a5m {g o : Nat} : Pu Tryd.prog (xV (Instr.fieldAt 90 (.pointer (some ⟨g, o, none⟩)) 3)) (.pointer (some ⟨g, o + 3, none⟩)) := Pu.ok fun w => by kernel_rfl
theorem c0X (a0 : Bool) (a1 : Int) : Pu Tryd.prog (xV (Instr.build 55 #[(0, (Value.bool a0)), (1, (Value.int .i64 a1))])) (.agg #[(Value.bool a0), (Value.int .i64 a1), (Value.bool false)]) := Pu.ok fun w => by kernel_rfl
abbrev S3 (x : a0H) : List Value := [(Value.bool x.e4z), (Value.int .i64 x.G8), (Value.bool x.f8m)]
theorem a5M (x : a0H) : (S3 x).length = 3 := rfl
theorem a5N (x : a0H) : (S3 x).all (·.oneCell') = true := rfl
theorem c5Q (Q1 : Bool) (Q2 : Int) (a7Q : Bool) (w : World) : (Instr.buildSlice 46 1 #[(0, (Value.agg #[(Value.bool Q1), (Value.int .i64 Q2), (Value.bool a7Q)]))]).run Tryd.prog w = .ok (.slice (some ⟨w.heap.size, 0, none⟩) 1 1) (w.alloc (.cells [(Value.bool Q1), (Value.int .i64 Q2), (Value.bool a7Q)].toArray 55)) := by kernel_rfl
theorem e4B : Tryd.prog.info? 55 = some ((Tryd.prog.info? 55).getD default) := by kernel_rfl
theorem c9Z {E : Pan} {w0 w : World} {ps : Nat → Prop} {H0 H : Hp} {Fs : List Frag} {K : Value → World → Prop} {s : Sl} {xs : List a0H} {F : Frag} {t2 : Sl} {ys : List a0H} {ks : List Bool} {ty : TypeId} (I : Inv w0 ps H0 H (F :: Fs) w) (hr : RowL 55 3 S3 s xs F) (hs : SrcO w S3 t2 ys) (hb : (xs.length + ys.length) * 25 ≤ 140737488355328) (h : ∀ (s' : Sl) (F' : Frag) (w' : World), RowL 55 3 S3 s' (xs ++ ys) F' → Inv w0 ps H0 H (F' :: Fs) w' → (∀ k, k < w.heap.size → (∀ p ∈ F, p.1 ≠ k) → w'.heap[k]? = w.heap[k]?) → K (.slice s'.a s'.n s'.c) w') : opK Tryd.prog E (xBuiltin .append #[46, 46] ty ks [.slice s.a s.n s.c, .slice t2.a t2.n t2.c]) w K :=
  b4v (bytes := 24) Tryd.underlying46 e4B (z := (Value.agg #[(Value.bool false), (Value.int .i64 0), (Value.bool false)])) (by kernel_rfl) (by kernel_rfl) (by kernel_rfl) (by kernel_rfl) I hr hs hb h
theorem b1r {g o : Nat} : Pu Tryd.prog (xV (Instr.fieldAt 90 (.pointer (some ⟨g, o, none⟩)) 5)) (.pointer (some ⟨g, o + 5, none⟩)) := Pu.ok fun w => by kernel_rfl
theorem d0a {a : Option Addr} {g o : Nat} (ha : a = some ⟨g, o, none⟩) (len cap : Nat) (k : IntKind) (i : Int) (h0 : 0 ≤ i) (h1 : i < len) : Pu Tryd.prog (xV (Instr.indexAt 104 (.slice a len cap) (.int k i))) (.pointer (some ⟨g, o + i.toNat * 1, none⟩)) := a0G Tryd.underlying104 Tryd.sizeOf9 ha len cap k i h0 h1
theorem a0h {g o : Nat} : Pu Tryd.prog (xV (Instr.fieldAt 138 (.pointer (some ⟨g, o, none⟩)) 0)) (.pointer (some ⟨g, o + 0, none⟩)) := Pu.ok fun w => by kernel_rfl
theorem a3K (a0 : Int) (a1 : Int) : Pu Tryd.prog (xV (Instr.build 223 #[(0, (Value.int .i64 a0)), (1, (Value.int .i64 a1))])) (.agg #[(Value.int .i64 a0), (Value.int .i64 a1)]) := Pu.ok fun w => by kernel_rfl
theorem d8V (d : Nat) (a0 b0 : Int) (a1 b1 : Int) (w : World) : (Op.equalIn (d + 2) 223 (.agg #[(Value.int .i64 a0), (Value.int .i64 a1)]) (.agg #[(Value.int .i64 b0), (Value.int .i64 b1)])).run Tryd.prog w = .ok (decide (a0 = b0 ∧ a1 = b1)) w := by
  have u3 := Tryd.underlying3
  have i3 := Tryd.isAgg3
  have s3 := Tryd.sizeOf3
  have hS : Tryd.prog.underlying 223 = some (.struct (Tryd.prog.fieldsOf 223)) := by kernel_rfl
  rw [run_equalIn_agg w (d + 1) 223 _ _ hS (by kernel_rfl)]
  simp only [Program.fieldsOf, Tryd.underlying223]
  go_simp
  try simp only [c1A]
  by_cases h0 : a0 = b0
  · by_cases h1 : a1 = b1
    · simp [h0, h1]
    · simp [h0, h1]
  · simp [h0]
theorem a9y (x y : Operand) (a0 b0 : Int) (a1 b1 : Int) : Pu Tryd.prog (xBin .eql 223 x y (.agg #[(Value.int .i64 a0), (Value.int .i64 a1)]) (.agg #[(Value.int .i64 b0), (Value.int .i64 b1)])) (.bool (decide (a0 = b0 ∧ a1 = b1))) := by
  refine Pu.ok (s := do eqGuard .eql 223 x y (.agg #[(Value.int .i64 a0), (Value.int .i64 a1)]) (.agg #[(Value.int .i64 b0), (Value.int .i64 b1)]); binOp .eql 223 (.agg #[(Value.int .i64 a0), (Value.int .i64 a1)]) (.agg #[(Value.int .i64 b0), (Value.int .i64 b1)])) fun w => ?_
  rw [Sem.run_bind, run_eqGuard_agg w _ _ _ _ _ _ (by kernel_rfl), Result.andThen_ok, run_eql_struct, show (10000 : Nat) = 9998 + 2 from rfl, d8V]
  rfl
theorem c6Q  : Pu Tryd.prog (xV (Instr.build 223 #[])) (.agg #[(Value.int .i64 0), (Value.int .i64 0)]) := Pu.ok fun w => by kernel_rfl
theorem a1b (a0 : Int) (a1 : Int) : Pu Tryd.prog (xV (Instr.build 227 #[(0, (Value.int .i64 a0)), (1, (Value.int .i64 a1))])) (.agg #[(Value.int .i64 a0), (Value.int .i64 a1)]) := Pu.ok fun w => by kernel_rfl
theorem d8W (d : Nat) (a0 b0 : Int) (a1 b1 : Int) (w : World) : (Op.equalIn (d + 2) 227 (.agg #[(Value.int .i64 a0), (Value.int .i64 a1)]) (.agg #[(Value.int .i64 b0), (Value.int .i64 b1)])).run Tryd.prog w = .ok (decide (a0 = b0 ∧ a1 = b1)) w := by
  have u3 := Tryd.underlying3
  have i3 := Tryd.isAgg3
  have s3 := Tryd.sizeOf3
  have hS : Tryd.prog.underlying 227 = some (.struct (Tryd.prog.fieldsOf 227)) := by kernel_rfl
  rw [run_equalIn_agg w (d + 1) 227 _ _ hS (by kernel_rfl)]
  simp only [Program.fieldsOf, Tryd.underlying227]
  go_simp
  try simp only [c1A]
  by_cases h0 : a0 = b0
  · by_cases h1 : a1 = b1
    · simp [h0, h1]
    · simp [h0, h1]
  · simp [h0]
theorem a4Y (x y : Operand) (a0 b0 : Int) (a1 b1 : Int) : Pu Tryd.prog (xBin .eql 227 x y (.agg #[(Value.int .i64 a0), (Value.int .i64 a1)]) (.agg #[(Value.int .i64 b0), (Value.int .i64 b1)])) (.bool (decide (a0 = b0 ∧ a1 = b1))) := by
  refine Pu.ok (s := do eqGuard .eql 227 x y (.agg #[(Value.int .i64 a0), (Value.int .i64 a1)]) (.agg #[(Value.int .i64 b0), (Value.int .i64 b1)]); binOp .eql 227 (.agg #[(Value.int .i64 a0), (Value.int .i64 a1)]) (.agg #[(Value.int .i64 b0), (Value.int .i64 b1)])) fun w => ?_
  rw [Sem.run_bind, run_eqGuard_agg w _ _ _ _ _ _ (by kernel_rfl), Result.andThen_ok, run_eql_struct, show (10000 : Nat) = 9998 + 2 from rfl, d8W]
  rfl
theorem c6R  : Pu Tryd.prog (xV (Instr.build 227 #[])) (.agg #[(Value.int .i64 0), (Value.int .i64 0)]) := Pu.ok fun w => by kernel_rfl
theorem d2V (a0a : Option Addr) (a0n a0c : Nat) (a1a : Option Addr) (a1n a1c : Nat) (a2a : Option Addr) (a2n a2c : Nat) (a3a : Option Addr) (a3n a3c : Nat) (w : World) : (Instr.buildSlice 174 4 #[(0, (Value.slice a0a a0n a0c)), (1, (Value.slice a1a a1n a1c)), (2, (Value.slice a2a a2n a2c)), (3, (Value.slice a3a a3n a3c))]).run Tryd.prog w = .ok (.slice (some ⟨w.heap.size, 0, none⟩) 4 4) (w.alloc (.cells [(Value.slice a0a a0n a0c), (Value.slice a1a a1n a1c), (Value.slice a2a a2n a2c), (Value.slice a3a a3n a3c)].toArray 124)) := by kernel_rfl
abbrev u4 (x : B0) : List Value := [(Value.slice x.a4m.a x.a4m.n x.a4m.c), (Value.slice x.a6s.a x.a6s.n x.a6s.c)]
abbrev p9 (x : N3) : List Value := [(Value.int .i64 x.a0Z), (Value.int .i64 x.c1H), (Value.int .i64 x.a4o), (Value.slice x.b0u.a x.b0u.n x.b0u.c), (Value.slice x.W7.a x.W7.n x.W7.c), (Value.slice x.b0v.a x.b0v.n x.b0v.c)]
abbrev a3L (x : g8) : List Value := [(Value.int .i64 x.fnodes), (Value.int .i64 x.fdepth), (Value.int .i64 x.fe), (Value.bool x.fform), (Value.bool x.fnamed), (Value.slice x.fnames.a x.fnames.n x.fnames.c)]
end Go.Proofs.YtnhkdkcgdcgmdaaDoor
