/- Single operations at this program's types, and its structures; printed by lift.py. -/
import Derived.Test.YtnhkdkcgdcgmdaaDoorProg
import Derived.Test.YtnhkdkcgdcgmdaaDoorzDS5
import Derived.KernelRfl
import Derived.Laws.StructEq
import Derived.Laws.Tables
import Derived.Laws.Cover2
namespace Go.Proofs.YtnhkdkcgdcgmdaaDoor
open Go.RowKit
set_option maxRecDepth 100000
set_option maxHeartbeats 2000000
structure d8 where
  d5 : Int
  G2 : Int
  d6 : ByteArray
  v8 : Sl
structure t6 where
  d5 : Int
  fOp : Int
  i6 : Sl
  r8 : Sl
structure A5 where
  a3X : Sl
  a6f : Sl
structure M9 where
  X5 : Int
  a9U : Int
  a3Y : Int
  a9V : Sl
  S9 : Sl
  a9W : Sl
structure a1r where
  e4d : Bool
  G2 : Int
  f7Q : Bool
structure i7 where
  d6 : ByteArray
  C7 : Int
structure m6 where
  d5 : Int
  d6 : ByteArray
  i6 : Sl
  p8 : Sl
  G1 : Sl
  E6 : Sl
structure g7 where
  fnodes : Int
  fdepth : Int
  fe : Int
  fform : Bool
  fnamed : Bool
  fnames : Sl
structure d9 where
  fl : Sl
structure b7 where
  fname : ByteArray
  fas : Int
structure D2 where
  k5 : d8
structure b5r where
  fn : Int
  fdepth : Int
  fbad : Int
structure b5s where
  fok : Bool
  fnames : Bool
structure H9 where
  j8 : t6
structure M2 where
  M3 : i7
structure I0 where
  d7 : m6
structure g4u where
  f0 : Int
  f1 : Int
structure C8 where
  fexprs : Int
  fparts : Int
structure K0 where
  fexprs : Int
  fconds : Int
inductive a8 where
  | nil
  | B7 (x : D2)
  | F0 (x : H9)
  | E1 (x : M2)
  | C3 (x : I0)
def r9 : a8 → Value
  | .nil => .nilIface
  | .B7 x => .iface 123 (.agg #[(Value.int .i64 x.k5.d5), (Value.int .i64 x.k5.G2), (Value.string x.k5.d6), (Value.slice x.k5.v8.a x.k5.v8.n x.k5.v8.c)])
  | .F0 x => .iface 138 (.agg #[(Value.int .i64 x.j8.d5), (Value.int .i64 x.j8.fOp), (Value.slice x.j8.i6.a x.j8.i6.n x.j8.i6.c), (Value.slice x.j8.r8.a x.j8.r8.n x.j8.r8.c)])
  | .E1 x => .iface 177 (.agg #[(Value.string x.M3.d6), (Value.int .i64 x.M3.C7)])
  | .C3 x => .iface 179 (.agg #[(Value.int .i64 x.d7.d5), (Value.string x.d7.d6), (Value.slice x.d7.i6.a x.d7.i6.n x.d7.i6.c), (Value.slice x.d7.p8.a x.d7.p8.n x.d7.p8.c), (Value.slice x.d7.G1.a x.d7.G1.n x.d7.G1.c), (Value.slice x.d7.E6.a x.d7.E6.n x.d7.E6.c)])
theorem c0v (x : a8) : [r9 x].all (·.oneCell') = true := by cases x <;> rfl
def a8.o7 : a8 → D2
  | .B7 x => x
  | _ => (D2.mk (d8.mk 0 0 ⟨#[]⟩ (Sl.mk none 0 0)))
def a8.a3q : a8 → Bool
  | .B7 _ => true
  | _ => false
def a8.P8 : a8 → M2
  | .E1 x => x
  | _ => (M2.mk (i7.mk ⟨#[]⟩ 0))
def a8.a3r : a8 → Bool
  | .E1 _ => true
  | _ => false
def a8.i2 : a8 → I0
  | .C3 x => x
  | _ => (I0.mk (m6.mk 0 ⟨#[]⟩ (Sl.mk none 0 0) (Sl.mk none 0 0) (Sl.mk none 0 0) (Sl.mk none 0 0)))
def a8.a3s : a8 → Bool
  | .C3 _ => true
  | _ => false
theorem U0 {g o : Nat} : Pu Tryd.prog (xV (Instr.fieldAt 24 (.pointer (some ⟨g, o, none⟩)) 0)) (.pointer (some ⟨g, o + 0, none⟩)) := Pu.ok fun w => by kernel_rfl
theorem a3t {g o : Nat} : Pu Tryd.prog (xV (Instr.fieldAt 24 (.pointer (some ⟨g, o, none⟩)) 3)) (.pointer (some ⟨g, o + 3, none⟩)) := Pu.ok fun w => by kernel_rfl
theorem a2h (a : Option Addr) (n c : Nat) : Pu Tryd.prog (xBuiltin .len #[22] 3 [false] [.slice a n c]) (.int .i64 (n : Int)) := a0b Tryd.underlying22 a n c
theorem a6O {g o : Nat} : Pu Tryd.prog (xV (Instr.fieldAt 27 (.pointer (some ⟨g, o, none⟩)) 0)) (.pointer (some ⟨g, o + 0, none⟩)) := Pu.ok fun w => by kernel_rfl
theorem a1s {g o : Nat} : Pu Tryd.prog (xV (Instr.fieldAt 27 (.pointer (some ⟨g, o, none⟩)) 3)) (.pointer (some ⟨g, o + 3, none⟩)) := Pu.ok fun w => by kernel_rfl
theorem a6l (a : Option Addr) (n c : Nat) : Pu Tryd.prog (xBuiltin .len #[25] 3 [false] [.slice a n c]) (.int .i64 (n : Int)) := a0b Tryd.underlying25 a n c
theorem a4V {g o : Nat} : Pu Tryd.prog (xV (Instr.fieldAt 27 (.pointer (some ⟨g, o, none⟩)) 2)) (.pointer (some ⟨g, o + 2, none⟩)) := Pu.ok fun w => by kernel_rfl
theorem a6m (a : Option Addr) (n c : Nat) : Pu Tryd.prog (xBuiltin .len #[45] 3 [false] [.slice a n c]) (.int .i64 (n : Int)) := a0b Tryd.underlying45 a n c
theorem b6J {g o : Nat} : Pu Tryd.prog (xV (Instr.fieldAt 49 (.pointer (some ⟨g, o, none⟩)) 2)) (.pointer (some ⟨g, o + 2, none⟩)) := Pu.ok fun w => by kernel_rfl
theorem b0K {g o : Nat} : Pu Tryd.prog (xV (Instr.fieldAt 49 (.pointer (some ⟨g, o, none⟩)) 0)) (.pointer (some ⟨g, o + 0, none⟩)) := Pu.ok fun w => by kernel_rfl
theorem c6x {g o : Nat} : Pu Tryd.prog (xV (Instr.fieldAt 49 (.pointer (some ⟨g, o, none⟩)) 1)) (.pointer (some ⟨g, o + 1, none⟩)) := Pu.ok fun w => by kernel_rfl
theorem P6 {a : Option Addr} {g o : Nat} (ha : a = some ⟨g, o, none⟩) (len cap : Nat) (k : IntKind) (i : Int) (h0 : 0 ≤ i) (h1 : i < len) : Pu Tryd.prog (xV (Instr.indexAt 45 (.slice a len cap) (.int k i))) (.pointer (some ⟨g, o + i.toNat * 1, none⟩)) := a0w Tryd.underlying45 Tryd.sizeOf2 ha len cap k i h0 h1
abbrev b5t (x : Int) : List Value := [(Value.int .i64 x)]
theorem d7m : Tryd.prog.info? 2 = some ((Tryd.prog.info? 2).getD default) := by kernel_rfl
theorem c9C {E : Pan} {w0 w : World} {ps : Nat → Prop} {H0 H : Hp} {Fs : List Frag} {K : Value → World → Prop} {s : Sl} {xs : List Int} {F : Frag} {t2 : Sl} {ys : List Int} {ks : List Bool} {ty : TypeId} (I : Inv w0 ps H0 H (F :: Fs) w) (hr : RowL 2 1 b5t s xs F) (hs : SrcO w b5t t2 ys) (hb : (xs.length + ys.length) * 9 ≤ 140737488355328) (h : ∀ (s' : Sl) (F' : Frag) (w' : World), RowL 2 1 b5t s' (xs ++ ys) F' → Inv w0 ps H0 H (F' :: Fs) w' → (∀ k, k < w.heap.size → (∀ p ∈ F, p.1 ≠ k) → w'.heap[k]? = w.heap[k]?) → K (.slice s'.a s'.n s'.c) w') : opK Tryd.prog E (xBuiltin .append #[45, 45] ty ks [.slice s.a s.n s.c, .slice t2.a t2.n t2.c]) w K :=
  b4b (bytes := 8) Tryd.underlying45 d7m (z := (Value.int .i64 0)) (by kernel_rfl) (by kernel_rfl) (by kernel_rfl) (by kernel_rfl) I hr hs hb h
theorem b5g (a0 : ByteArray) : Pu Tryd.prog (xV (Instr.build 58 #[(0, (Value.string a0))])) (.agg #[(Value.string a0), (Value.int .i64 0)]) := Pu.ok fun w => by kernel_rfl
abbrev l9 (x : i7) : List Value := [(Value.string x.d6), (Value.int .i64 x.C7)]
theorem b2g (x : i7) : (l9 x).length = 2 := rfl
theorem b2h (x : i7) : (l9 x).all (·.oneCell') = true := rfl
theorem c5x (R5 : ByteArray) (R6 : Int) (w : World) : (Instr.buildSlice 41 1 #[(0, (Value.agg #[(Value.string R5), (Value.int .i64 R6)]))]).run Tryd.prog w = .ok (.slice (some ⟨w.heap.size, 0, none⟩) 1 1) (w.alloc (.cells [(Value.string R5), (Value.int .i64 R6)].toArray 58)) := by kernel_rfl
abbrev i4 (x : t6) : List Value := [(Value.int .i64 x.d5), (Value.int .i64 x.fOp), (Value.slice x.i6.a x.i6.n x.i6.c), (Value.slice x.r8.a x.r8.n x.r8.c)]
abbrev f2 (x : m6) : List Value := [(Value.int .i64 x.d5), (Value.string x.d6), (Value.slice x.i6.a x.i6.n x.i6.c), (Value.slice x.p8.a x.p8.n x.p8.c), (Value.slice x.G1.a x.G1.n x.G1.c), (Value.slice x.E6.a x.E6.n x.E6.c)]
theorem b2i (x : m6) : (f2 x).length = 6 := rfl
theorem b2j (x : m6) : (f2 x).all (·.oneCell') = true := rfl
theorem d8u (R5 : Int) (R6 : ByteArray) (a0_2a : Option Addr) (a0_2n a0_2c : Nat) (a0_3a : Option Addr) (a0_3n a0_3c : Nat) (a0_4a : Option Addr) (a0_4n a0_4c : Nat) (a0_5a : Option Addr) (a0_5n a0_5c : Nat) (w : World) : (Instr.buildSlice 42 1 #[(0, (Value.agg #[(Value.int .i64 R5), (Value.string R6), (Value.slice a0_2a a0_2n a0_2c), (Value.slice a0_3a a0_3n a0_3c), (Value.slice a0_4a a0_4n a0_4c), (Value.slice a0_5a a0_5n a0_5c)]))]).run Tryd.prog w = .ok (.slice (some ⟨w.heap.size, 0, none⟩) 1 1) (w.alloc (.cells [(Value.int .i64 R5), (Value.string R6), (Value.slice a0_2a a0_2n a0_2c), (Value.slice a0_3a a0_3n a0_3c), (Value.slice a0_4a a0_4n a0_4c), (Value.slice a0_5a a0_5n a0_5c)].toArray 63)) := by kernel_rfl
theorem b2k (a0a : Option Addr) (a0n a0c : Nat) (a1a : Option Addr) (a1n a1c : Nat) : Pu Tryd.prog (xV (Instr.build 44 #[(0, (Value.slice a0a a0n a0c)), (1, (Value.slice a1a a1n a1c))])) (.agg #[(Value.slice a0a a0n a0c), (Value.slice a1a a1n a1c)]) := Pu.ok fun w => by kernel_rfl
theorem a2k {g o : Nat} : Pu Tryd.prog (xV (Instr.fieldAt 49 (.pointer (some ⟨g, o, none⟩)) 4)) (.pointer (some ⟨g, o + 4, none⟩)) := Pu.ok fun w => by kernel_rfl
abbrev b6 (x : d8) : List Value := [(Value.int .i64 x.d5), (Value.int .i64 x.G2), (Value.string x.d6), (Value.slice x.v8.a x.v8.n x.v8.c)]
theorem a1m (x : d8) : (b6 x).length = 4 := rfl
theorem a1o (x : d8) : (b6 x).all (·.oneCell') = true := rfl
theorem c5y (R5 : Int) (R6 : Int) (a7z : ByteArray) (a0_3a : Option Addr) (a0_3n a0_3c : Nat) (c1o : Int) (c1p : Int) (e4e : ByteArray) (a1_3a : Option Addr) (a1_3n a1_3c : Nat) (w : World) : (Instr.buildSlice 22 2 #[(0, (Value.agg #[(Value.int .i64 R5), (Value.int .i64 R6), (Value.string a7z), (Value.slice a0_3a a0_3n a0_3c)])), (1, (Value.agg #[(Value.int .i64 c1o), (Value.int .i64 c1p), (Value.string e4e), (Value.slice a1_3a a1_3n a1_3c)]))]).run Tryd.prog w = .ok (.slice (some ⟨w.heap.size, 0, none⟩) 2 2) (w.alloc (.cells [(Value.int .i64 R5), (Value.int .i64 R6), (Value.string a7z), (Value.slice a0_3a a0_3n a0_3c), (Value.int .i64 c1o), (Value.int .i64 c1p), (Value.string e4e), (Value.slice a1_3a a1_3n a1_3c)].toArray 24)) := by kernel_rfl
theorem a4W (a0 : Int) (a1 : ByteArray) (a2a : Option Addr) (a2n a2c : Nat) : Pu Tryd.prog (xV (Instr.build 63 #[(0, (Value.int .i64 a0)), (1, (Value.string a1)), (2, (Value.slice a2a a2n a2c))])) (.agg #[(Value.int .i64 a0), (Value.string a1), (Value.slice a2a a2n a2c), (Value.slice none 0 0), (Value.slice none 0 0), (Value.slice none 0 0)]) := Pu.ok fun w => by kernel_rfl
theorem b4h (R5 : Int) (R6 : Int) (a7z : ByteArray) (a0_3a : Option Addr) (a0_3n a0_3c : Nat) (w : World) : (Instr.buildSlice 22 1 #[(0, (Value.agg #[(Value.int .i64 R5), (Value.int .i64 R6), (Value.string a7z), (Value.slice a0_3a a0_3n a0_3c)]))]).run Tryd.prog w = .ok (.slice (some ⟨w.heap.size, 0, none⟩) 1 1) (w.alloc (.cells [(Value.int .i64 R5), (Value.int .i64 R6), (Value.string a7z), (Value.slice a0_3a a0_3n a0_3c)].toArray 24)) := by kernel_rfl
theorem d8v (R5 : Int) (R6 : ByteArray) (a0_2a : Option Addr) (a0_2n a0_2c : Nat) (a0_3a : Option Addr) (a0_3n a0_3c : Nat) (a0_4a : Option Addr) (a0_4n a0_4c : Nat) (a0_5a : Option Addr) (a0_5n a0_5c : Nat) (c1o : Int) (c1p : ByteArray) (a1_2a : Option Addr) (a1_2n a1_2c : Nat) (a1_3a : Option Addr) (a1_3n a1_3c : Nat) (a1_4a : Option Addr) (a1_4n a1_4c : Nat) (a1_5a : Option Addr) (a1_5n a1_5c : Nat) (w : World) : (Instr.buildSlice 42 2 #[(0, (Value.agg #[(Value.int .i64 R5), (Value.string R6), (Value.slice a0_2a a0_2n a0_2c), (Value.slice a0_3a a0_3n a0_3c), (Value.slice a0_4a a0_4n a0_4c), (Value.slice a0_5a a0_5n a0_5c)])), (1, (Value.agg #[(Value.int .i64 c1o), (Value.string c1p), (Value.slice a1_2a a1_2n a1_2c), (Value.slice a1_3a a1_3n a1_3c), (Value.slice a1_4a a1_4n a1_4c), (Value.slice a1_5a a1_5n a1_5c)]))]).run Tryd.prog w = .ok (.slice (some ⟨w.heap.size, 0, none⟩) 2 2) (w.alloc (.cells [(Value.int .i64 R5), (Value.string R6), (Value.slice a0_2a a0_2n a0_2c), (Value.slice a0_3a a0_3n a0_3c), (Value.slice a0_4a a0_4n a0_4c), (Value.slice a0_5a a0_5n a0_5c), (Value.int .i64 c1o), (Value.string c1p), (Value.slice a1_2a a1_2n a1_2c), (Value.slice a1_3a a1_3n a1_3c), (Value.slice a1_4a a1_4n a1_4c), (Value.slice a1_5a a1_5n a1_5c)].toArray 63)) := by kernel_rfl
theorem b6K {g o : Nat} : Pu Tryd.prog (xV (Instr.fieldAt 49 (.pointer (some ⟨g, o, none⟩)) 5)) (.pointer (some ⟨g, o + 5, none⟩)) := Pu.ok fun w => by kernel_rfl
theorem a6A (a0 : Int) (a3a : Option Addr) (a3n a3c : Nat) : Pu Tryd.prog (xV (Instr.build 24 #[(0, (Value.int .i64 a0)), (3, (Value.slice a3a a3n a3c))])) (.agg #[(Value.int .i64 a0), (Value.int .i64 0), (Value.string ⟨#[]⟩), (Value.slice a3a a3n a3c)]) := Pu.ok fun w => by kernel_rfl
theorem c0w (a0 : Int) (a2 : ByteArray) : Pu Tryd.prog (xV (Instr.build 24 #[(0, (Value.int .i64 a0)), (2, (Value.string a2))])) (.agg #[(Value.int .i64 a0), (Value.int .i64 0), (Value.string a2), (Value.slice none 0 0)]) := Pu.ok fun w => by kernel_rfl
theorem a0P {a : Option Addr} {g o : Nat} (ha : a = some ⟨g, o, none⟩) (len cap : Nat) (k : IntKind) (i : Int) (h0 : 0 ≤ i) (h1 : i < len) : Pu Tryd.prog (xV (Instr.indexAt 22 (.slice a len cap) (.int k i))) (.pointer (some ⟨g, o + i.toNat * 4, none⟩)) := a0w Tryd.underlying22 Tryd.sizeOf24 ha len cap k i h0 h1
theorem a6P {g o : Nat} : Pu Tryd.prog (xV (Instr.fieldAt 24 (.pointer (some ⟨g, o, none⟩)) 1)) (.pointer (some ⟨g, o + 1, none⟩)) := Pu.ok fun w => by kernel_rfl
theorem a3u {g o : Nat} : Pu Tryd.prog (xV (Instr.fieldAt 24 (.pointer (some ⟨g, o, none⟩)) 2)) (.pointer (some ⟨g, o + 2, none⟩)) := Pu.ok fun w => by kernel_rfl
theorem a6Q {g o : Nat} : Pu Tryd.prog (xV (Instr.fieldAt 27 (.pointer (some ⟨g, o, none⟩)) 1)) (.pointer (some ⟨g, o + 1, none⟩)) := Pu.ok fun w => by kernel_rfl
theorem a2l {a : Option Addr} {g o : Nat} (ha : a = some ⟨g, o, none⟩) (len cap : Nat) (k : IntKind) (i : Int) (h0 : 0 ≤ i) (h1 : i < len) : Pu Tryd.prog (xV (Instr.indexAt 25 (.slice a len cap) (.int k i))) (.pointer (some ⟨g, o + i.toNat * 4, none⟩)) := a0w Tryd.underlying25 Tryd.sizeOf27 ha len cap k i h0 h1
theorem a4g (a0 : Int) (a1 : Int) : Pu Tryd.prog (xV (Instr.build 24 #[(0, (Value.int .i64 a0)), (1, (Value.int .i64 a1))])) (.agg #[(Value.int .i64 a0), (Value.int .i64 a1), (Value.string ⟨#[]⟩), (Value.slice none 0 0)]) := Pu.ok fun w => by kernel_rfl
theorem d2B (x y : Operand) (a b : Bool) : Pu Tryd.prog (xBin .eql 4 x y (.bool a) (.bool b)) (.bool (a == b)) := e3V _ _ _ a b Tryd.underlying4
theorem b0L (x y : Operand) (a b : Bool) : Pu Tryd.prog (xBin .neq 4 x y (.bool a) (.bool b)) (.bool (a != b)) := e3W _ _ _ a b Tryd.underlying4
theorem b0M {g o : Nat} : Pu Tryd.prog (xV (Instr.fieldAt 44 (.pointer (some ⟨g, o, none⟩)) 1)) (.pointer (some ⟨g, o + 1, none⟩)) := Pu.ok fun w => by kernel_rfl
theorem a3Z {g o : Nat} : Pu Tryd.prog (xV (Instr.fieldAt 106 (.pointer (some ⟨g, o, none⟩)) 2)) (.pointer (some ⟨g, o + 2, none⟩)) := Pu.ok fun w => by kernel_rfl
theorem b5h {g o : Nat} : Pu Tryd.prog (xV (Instr.fieldAt 106 (.pointer (some ⟨g, o, none⟩)) 1)) (.pointer (some ⟨g, o + 1, none⟩)) := Pu.ok fun w => by kernel_rfl
theorem a9r {g o : Nat} : Pu Tryd.prog (xV (Instr.fieldAt 106 (.pointer (some ⟨g, o, none⟩)) 0)) (.pointer (some ⟨g, o + 0, none⟩)) := Pu.ok fun w => by kernel_rfl
theorem a6R {g o : Nat} : Pu Tryd.prog (xV (Instr.fieldAt 44 (.pointer (some ⟨g, o, none⟩)) 0)) (.pointer (some ⟨g, o + 0, none⟩)) := Pu.ok fun w => by kernel_rfl
theorem c6y  : Pu Tryd.prog (xV (Instr.build 114 #[])) (.agg #[(Value.slice none 0 0)]) := Pu.ok fun w => by kernel_rfl
abbrev o2 (x : b7) : List Value := [(Value.string x.fname), (Value.int .i64 x.fas)]
theorem a2M (x : b7) : (o2 x).length = 2 := rfl
theorem a2N (x : b7) : (o2 x).all (·.oneCell') = true := rfl
theorem a4L (a : Option Addr) (n c : Nat) : Pu Tryd.prog (xBuiltin .len #[42] 3 [false] [.slice a n c]) (.int .i64 (n : Int)) := a0b Tryd.underlying42 a n c
theorem b5u {a : Option Addr} {g o : Nat} (ha : a = some ⟨g, o, none⟩) (len cap : Nat) (k : IntKind) (i : Int) (h0 : 0 ≤ i) (h1 : i < len) : Pu Tryd.prog (xV (Instr.indexAt 42 (.slice a len cap) (.int k i))) (.pointer (some ⟨g, o + i.toNat * 6, none⟩)) := a0w Tryd.underlying42 Tryd.sizeOf63 ha len cap k i h0 h1
theorem a4X {g o : Nat} : Pu Tryd.prog (xV (Instr.fieldAt 63 (.pointer (some ⟨g, o, none⟩)) 0)) (.pointer (some ⟨g, o + 0, none⟩)) := Pu.ok fun w => by kernel_rfl
theorem Z3 {g o : Nat} : Pu Tryd.prog (xV (Instr.fieldAt 114 (.pointer (some ⟨g, o, none⟩)) 0)) (.pointer (some ⟨g, o + 0, none⟩)) := Pu.ok fun w => by kernel_rfl
theorem a1t {g o : Nat} : Pu Tryd.prog (xV (Instr.fieldAt 63 (.pointer (some ⟨g, o, none⟩)) 1)) (.pointer (some ⟨g, o + 1, none⟩)) := Pu.ok fun w => by kernel_rfl
theorem a3v (a0 : ByteArray) (a1 : Int) : Pu Tryd.prog (xV (Instr.build 117 #[(0, (Value.string a0)), (1, (Value.int .i64 a1))])) (.agg #[(Value.string a0), (Value.int .i64 a1)]) := Pu.ok fun w => by kernel_rfl
theorem b0N (R5 : ByteArray) (R6 : Int) (w : World) : (Instr.buildSlice 112 1 #[(0, (Value.agg #[(Value.string R5), (Value.int .i64 R6)]))]).run Tryd.prog w = .ok (.slice (some ⟨w.heap.size, 0, none⟩) 1 1) (w.alloc (.cells [(Value.string R5), (Value.int .i64 R6)].toArray 117)) := by kernel_rfl
theorem d8w : Tryd.prog.info? 117 = some ((Tryd.prog.info? 117).getD default) := by kernel_rfl
theorem b4i {E : Pan} {w0 w : World} {ps : Nat → Prop} {H0 H : Hp} {Fs : List Frag} {K : Value → World → Prop} {s : Sl} {xs : List b7} {F : Frag} {t2 : Sl} {ys : List b7} {ks : List Bool} {ty : TypeId} (I : Inv w0 ps H0 H (F :: Fs) w) (hr : RowL 117 2 o2 s xs F) (hs : SrcO w o2 t2 ys) (hb : (xs.length + ys.length) * 25 ≤ 140737488355328) (h : ∀ (s' : Sl) (F' : Frag) (w' : World), RowL 117 2 o2 s' (xs ++ ys) F' → Inv w0 ps H0 H (F' :: Fs) w' → (∀ k, k < w.heap.size → (∀ p ∈ F, p.1 ≠ k) → w'.heap[k]? = w.heap[k]?) → K (.slice s'.a s'.n s'.c) w') : opK Tryd.prog E (xBuiltin .append #[112, 112] ty ks [.slice s.a s.n s.c, .slice t2.a t2.n t2.c]) w K :=
  b4b (bytes := 24) Tryd.underlying112 d8w (z := (Value.agg #[(Value.string ⟨#[]⟩), (Value.int .i64 0)])) (by kernel_rfl) (by kernel_rfl) (by kernel_rfl) (by kernel_rfl) I hr hs hb h
theorem a6S {g o : Nat} : Pu Tryd.prog (xV (Instr.fieldAt 63 (.pointer (some ⟨g, o, none⟩)) 3)) (.pointer (some ⟨g, o + 3, none⟩)) := Pu.ok fun w => by kernel_rfl
theorem a4Y {g o : Nat} : Pu Tryd.prog (xV (Instr.fieldAt 63 (.pointer (some ⟨g, o, none⟩)) 2)) (.pointer (some ⟨g, o + 2, none⟩)) := Pu.ok fun w => by kernel_rfl
theorem a4Z {g o : Nat} : Pu Tryd.prog (xV (Instr.fieldAt 63 (.pointer (some ⟨g, o, none⟩)) 4)) (.pointer (some ⟨g, o + 4, none⟩)) := Pu.ok fun w => by kernel_rfl
theorem a5a {g o : Nat} : Pu Tryd.prog (xV (Instr.fieldAt 63 (.pointer (some ⟨g, o, none⟩)) 5)) (.pointer (some ⟨g, o + 5, none⟩)) := Pu.ok fun w => by kernel_rfl
theorem c9D {a : Option Addr} {g o : Nat} (ha : a = some ⟨g, o, none⟩) (len cap : Nat) (k : IntKind) (i : Int) (h0 : 0 ≤ i) (h1 : i < len) : Pu Tryd.prog (xV (Instr.indexAt 112 (.slice a len cap) (.int k i))) (.pointer (some ⟨g, o + i.toNat * 2, none⟩)) := a0w Tryd.underlying112 Tryd.sizeOf117 ha len cap k i h0 h1
theorem a9s {g o : Nat} : Pu Tryd.prog (xV (Instr.fieldAt 117 (.pointer (some ⟨g, o, none⟩)) 0)) (.pointer (some ⟨g, o + 0, none⟩)) := Pu.ok fun w => by kernel_rfl
theorem c5h {g o : Nat} : Pu Tryd.prog (xV (Instr.fieldAt 117 (.pointer (some ⟨g, o, none⟩)) 1)) (.pointer (some ⟨g, o + 1, none⟩)) := Pu.ok fun w => by kernel_rfl
theorem c1q (R5 : Int) (R6 : Int) (a7z : ByteArray) (a0_3a : Option Addr) (a0_3n a0_3c : Nat) : Pu Tryd.prog (xV (Instr.build 123 #[(0, (Value.agg #[(Value.int .i64 R5), (Value.int .i64 R6), (Value.string a7z), (Value.slice a0_3a a0_3n a0_3c)]))])) (.agg #[(Value.int .i64 R5), (Value.int .i64 R6), (Value.string a7z), (Value.slice a0_3a a0_3n a0_3c)]) := Pu.ok fun w => by kernel_rfl
theorem a9X (x : D2) : Pu Tryd.prog (xV (Instr.makeInterface 123 (.agg #[(Value.int .i64 x.k5.d5), (Value.int .i64 x.k5.G2), (Value.string x.k5.d6), (Value.slice x.k5.v8.a x.k5.v8.n x.k5.v8.c)]))) (r9 (a8.B7 x)) := Pu.ok fun w => rfl
abbrev m7 (x : a8) : List Value := [(r9 x)]
theorem K9 (x : a8) : (m7 x).length = 1 := rfl
theorem N7 (x : a8) : (m7 x).all (·.oneCell') = true := c0v x
theorem b0O (a0 : a8) (w : World) : (Instr.buildSlice 124 1 #[(0, (r9 a0))]).run Tryd.prog w = .ok (.slice (some ⟨w.heap.size, 0, none⟩) 1 1) (w.alloc (.cells [(r9 a0)].toArray 152)) := by cases a0 <;> kernel_rfl
theorem c1r (R5 : Int) (R6 : Int) (a0_2a : Option Addr) (a0_2n a0_2c : Nat) (a0_3a : Option Addr) (a0_3n a0_3c : Nat) : Pu Tryd.prog (xV (Instr.build 138 #[(0, (Value.agg #[(Value.int .i64 R5), (Value.int .i64 R6), (Value.slice a0_2a a0_2n a0_2c), (Value.slice a0_3a a0_3n a0_3c)]))])) (.agg #[(Value.int .i64 R5), (Value.int .i64 R6), (Value.slice a0_2a a0_2n a0_2c), (Value.slice a0_3a a0_3n a0_3c)]) := Pu.ok fun w => by kernel_rfl
theorem b8B (x : H9) : Pu Tryd.prog (xV (Instr.makeInterface 138 (.agg #[(Value.int .i64 x.j8.d5), (Value.int .i64 x.j8.fOp), (Value.slice x.j8.i6.a x.j8.i6.n x.j8.i6.c), (Value.slice x.j8.r8.a x.j8.r8.n x.j8.r8.c)]))) (r9 (a8.F0 x)) := Pu.ok fun w => rfl
theorem b6L (k : IntKind) (n : Int) : Pu Tryd.prog (xV (convert 2 96 (.int k n))) (.int .u64 (IntKind.wrap .u64 n)) := Pu.ok fun w => run_convert_int (P := Tryd.prog) (w := w) 2 96 k n (by rw [Tryd.underlying2]; rfl) Tryd.underlying96
theorem c1s (a0a : Option Addr) (a0n a0c : Nat) (a1a : Option Addr) (a1n a1c : Nat) (w : World) : (Instr.buildSlice 174 2 #[(0, (Value.slice a0a a0n a0c)), (1, (Value.slice a1a a1n a1c))]).run Tryd.prog w = .ok (.slice (some ⟨w.heap.size, 0, none⟩) 2 2) (w.alloc (.cells [(Value.slice a0a a0n a0c), (Value.slice a1a a1n a1c)].toArray 124)) := by kernel_rfl
theorem a9a (a : Option Addr) (n c : Nat) : Pu Tryd.prog (xBuiltin .len #[41] 3 [false] [.slice a n c]) (.int .i64 (n : Int)) := a0b Tryd.underlying41 a n c
theorem b0P {a : Option Addr} {g o : Nat} (ha : a = some ⟨g, o, none⟩) (len cap : Nat) (k : IntKind) (i : Int) (h0 : 0 ≤ i) (h1 : i < len) : Pu Tryd.prog (xV (Instr.indexAt 41 (.slice a len cap) (.int k i))) (.pointer (some ⟨g, o + i.toNat * 2, none⟩)) := a0w Tryd.underlying41 Tryd.sizeOf58 ha len cap k i h0 h1
theorem c6z  : Pu Tryd.prog (xV (Instr.build 106 #[])) (.agg #[(Value.int .i64 0), (Value.int .i64 0), (Value.int .i64 0), (Value.bool false), (Value.bool false), (Value.slice none 0 0)]) := Pu.ok fun w => by kernel_rfl
abbrev B6 (x : ByteArray) : List Value := [(Value.string x)]
theorem b5i (x : ByteArray) : (B6 x).length = 1 := rfl
theorem b5j (x : ByteArray) : (B6 x).all (·.oneCell') = true := rfl
theorem a6T (a : Option Addr) (n c : Nat) : Pu Tryd.prog (xBuiltin .len #[124] 3 [false] [.slice a n c]) (.int .i64 (n : Int)) := a0b Tryd.underlying124 a n c
theorem c9E {a : Option Addr} {g o : Nat} (ha : a = some ⟨g, o, none⟩) (len cap : Nat) (k : IntKind) (i : Int) (h0 : 0 ≤ i) (h1 : i < len) : Pu Tryd.prog (xV (Instr.indexAt 124 (.slice a len cap) (.int k i))) (.pointer (some ⟨g, o + i.toNat * 1, none⟩)) := a0w Tryd.underlying124 Tryd.sizeOf152 ha len cap k i h0 h1
theorem a9t {g o : Nat} : Pu Tryd.prog (xV (Instr.fieldAt 106 (.pointer (some ⟨g, o, none⟩)) 3)) (.pointer (some ⟨g, o + 3, none⟩)) := Pu.ok fun w => by kernel_rfl
theorem a9u {g o : Nat} : Pu Tryd.prog (xV (Instr.fieldAt 106 (.pointer (some ⟨g, o, none⟩)) 4)) (.pointer (some ⟨g, o + 4, none⟩)) := Pu.ok fun w => by kernel_rfl
theorem a9v {g o : Nat} : Pu Tryd.prog (xV (Instr.fieldAt 106 (.pointer (some ⟨g, o, none⟩)) 5)) (.pointer (some ⟨g, o + 5, none⟩)) := Pu.ok fun w => by kernel_rfl
theorem d2C (a0 : ByteArray) (w : World) : (Instr.buildSlice 104 1 #[(0, (Value.string a0))]).run Tryd.prog w = .ok (.slice (some ⟨w.heap.size, 0, none⟩) 1 1) (w.alloc (.cells [(Value.string a0)].toArray 9)) := by kernel_rfl
theorem f7R : Tryd.prog.info? 9 = some ((Tryd.prog.info? 9).getD default) := by kernel_rfl
theorem d8x {E : Pan} {w0 w : World} {ps : Nat → Prop} {H0 H : Hp} {Fs : List Frag} {K : Value → World → Prop} {s : Sl} {xs : List ByteArray} {F : Frag} {t2 : Sl} {ys : List ByteArray} {ks : List Bool} {ty : TypeId} (I : Inv w0 ps H0 H (F :: Fs) w) (hr : RowL 9 1 B6 s xs F) (hs : SrcO w B6 t2 ys) (hb : (xs.length + ys.length) * 17 ≤ 140737488355328) (h : ∀ (s' : Sl) (F' : Frag) (w' : World), RowL 9 1 B6 s' (xs ++ ys) F' → Inv w0 ps H0 H (F' :: Fs) w' → (∀ k, k < w.heap.size → (∀ p ∈ F, p.1 ≠ k) → w'.heap[k]? = w.heap[k]?) → K (.slice s'.a s'.n s'.c) w') : opK Tryd.prog E (xBuiltin .append #[104, 104] ty ks [.slice s.a s.n s.c, .slice t2.a t2.n t2.c]) w K :=
  b4b (bytes := 16) Tryd.underlying104 f7R (z := (Value.string ⟨#[]⟩)) (by kernel_rfl) (by kernel_rfl) (by kernel_rfl) (by kernel_rfl) I hr hs hb h
theorem a2Q : Pu Tryd.prog (xV (Instr.build 171 #[(0, (Value.func (.func 123) #[] #[])), (1, (Value.func (.func 124) #[] #[])), (2, (Value.func (.func 125) #[] #[])), (3, (Value.func (.func 126) #[] #[])), (4, (Value.func (.func 127) #[] #[])), (5, (Value.func (.func 128) #[] #[])), (6, (Value.func (.func 129) #[] #[]))])) (.agg #[(Value.func (.func 123) #[] #[]), (Value.func (.func 124) #[] #[]), (Value.func (.func 125) #[] #[]), (Value.func (.func 126) #[] #[]), (Value.func (.func 127) #[] #[]), (Value.func (.func 128) #[] #[]), (Value.func (.func 129) #[] #[])]) := Pu.ok fun w => by kernel_rfl
theorem P7 (k : IntKind) (i : Int) (h0 : 0 ≤ i) (h1 : i < 7) : Pu Tryd.prog (xV (Instr.index 171 (.agg #[(Value.func (.func 123) #[] #[]), (Value.func (.func 124) #[] #[]), (Value.func (.func 125) #[] #[]), (Value.func (.func 126) #[] #[]), (Value.func (.func 127) #[] #[]), (Value.func (.func 128) #[] #[]), (Value.func (.func 129) #[] #[])]) (.int k i))) (([(Value.func (.func 123) #[] #[]), (Value.func (.func 124) #[] #[]), (Value.func (.func 125) #[] #[]), (Value.func (.func 126) #[] #[]), (Value.func (.func 127) #[] #[]), (Value.func (.func 128) #[] #[]), (Value.func (.func 129) #[] #[])] : List Value).getD i.toNat undef) := by
  obtain rfl | rfl | rfl | rfl | rfl | rfl | rfl := (by omega : i = 0 ∨ i = 1 ∨ i = 2 ∨ i = 3 ∨ i = 4 ∨ i = 5 ∨ i = 6)
  · exact Pu.ok fun w => by kernel_rfl
  · exact Pu.ok fun w => by kernel_rfl
  · exact Pu.ok fun w => by kernel_rfl
  · exact Pu.ok fun w => by kernel_rfl
  · exact Pu.ok fun w => by kernel_rfl
  · exact Pu.ok fun w => by kernel_rfl
  · exact Pu.ok fun w => by kernel_rfl
theorem a6U {g o : Nat} : Pu Tryd.prog (xV (Instr.fieldAt 90 (.pointer (some ⟨g, o, none⟩)) 4)) (.pointer (some ⟨g, o + 4, none⟩)) := Pu.ok fun w => by kernel_rfl
theorem b0Q {g o : Nat} : Pu Tryd.prog (xV (Instr.fieldAt 90 (.pointer (some ⟨g, o, none⟩)) 0)) (.pointer (some ⟨g, o + 0, none⟩)) := Pu.ok fun w => by kernel_rfl
theorem c0x (a0 : Int) (a1 : Int) : Pu Tryd.prog (xV (Instr.build 93 #[(0, (Value.int .i64 a0)), (1, (Value.int .i64 a1))])) (.agg #[(Value.int .i64 a0), (Value.int .i64 a1)]) := Pu.ok fun w => by kernel_rfl
theorem b0R {g o : Nat} : Pu Tryd.prog (xV (Instr.fieldAt 90 (.pointer (some ⟨g, o, none⟩)) 1)) (.pointer (some ⟨g, o + 1, none⟩)) := Pu.ok fun w => by kernel_rfl
theorem b6M (a : Option Addr) (n c : Nat) : Pu Tryd.prog (xBuiltin .len #[174] 3 [false] [.slice a n c]) (.int .i64 (n : Int)) := a0b Tryd.underlying174 a n c
theorem c0a {a : Option Addr} {g o : Nat} (ha : a = some ⟨g, o, none⟩) (len cap : Nat) (k : IntKind) (i : Int) (h0 : 0 ≤ i) (h1 : i < len) : Pu Tryd.prog (xV (Instr.indexAt 174 (.slice a len cap) (.int k i))) (.pointer (some ⟨g, o + i.toNat * 1, none⟩)) := a0w Tryd.underlying174 Tryd.sizeOf124 ha len cap k i h0 h1
theorem c9F (s : ByteArray) : Pu Tryd.prog (xV (Instr.makeInterface 9 (.string s))) (.iface 9 (.string s)) := Pu.ok fun w => by kernel_rfl
theorem c5z : Tryd.prog.info? 152 = some ((Tryd.prog.info? 152).getD default) := by kernel_rfl
theorem a9Y {E : Pan} {w0 w : World} {ps : Nat → Prop} {H0 H : Hp} {Fs : List Frag} {K : Value → World → Prop} {s : Sl} {xs : List a8} {F : Frag} {t2 : Sl} {ys : List a8} {ks : List Bool} {ty : TypeId} (I : Inv w0 ps H0 H (F :: Fs) w) (hr : RowL 152 1 m7 s xs F) (hs : SrcO w m7 t2 ys) (hb : (xs.length + ys.length) * 17 ≤ 140737488355328) (h : ∀ (s' : Sl) (F' : Frag) (w' : World), RowL 152 1 m7 s' (xs ++ ys) F' → Inv w0 ps H0 H (F' :: Fs) w' → (∀ k, k < w.heap.size → (∀ p ∈ F, p.1 ≠ k) → w'.heap[k]? = w.heap[k]?) → K (.slice s'.a s'.n s'.c) w') : opK Tryd.prog E (xBuiltin .append #[124, 124] ty ks [.slice s.a s.n s.c, .slice t2.a t2.n t2.c]) w K :=
  b4b (bytes := 16) Tryd.underlying124 c5z (z := Value.nilIface) (by kernel_rfl) (by kernel_rfl) (by kernel_rfl) (by kernel_rfl) I hr hs hb h
theorem c1t (R5 : ByteArray) (R6 : Int) : Pu Tryd.prog (xV (Instr.build 177 #[(0, (Value.agg #[(Value.string R5), (Value.int .i64 R6)]))])) (.agg #[(Value.string R5), (Value.int .i64 R6)]) := Pu.ok fun w => by kernel_rfl
theorem b8C (x : M2) : Pu Tryd.prog (xV (Instr.makeInterface 177 (.agg #[(Value.string x.M3.d6), (Value.int .i64 x.M3.C7)]))) (r9 (a8.E1 x)) := Pu.ok fun w => rfl
theorem c1u (R5 : Int) (R6 : ByteArray) (a0_2a : Option Addr) (a0_2n a0_2c : Nat) (a0_3a : Option Addr) (a0_3n a0_3c : Nat) (a0_4a : Option Addr) (a0_4n a0_4c : Nat) (a0_5a : Option Addr) (a0_5n a0_5c : Nat) : Pu Tryd.prog (xV (Instr.build 179 #[(0, (Value.agg #[(Value.int .i64 R5), (Value.string R6), (Value.slice a0_2a a0_2n a0_2c), (Value.slice a0_3a a0_3n a0_3c), (Value.slice a0_4a a0_4n a0_4c), (Value.slice a0_5a a0_5n a0_5c)]))])) (.agg #[(Value.int .i64 R5), (Value.string R6), (Value.slice a0_2a a0_2n a0_2c), (Value.slice a0_3a a0_3n a0_3c), (Value.slice a0_4a a0_4n a0_4c), (Value.slice a0_5a a0_5n a0_5c)]) := Pu.ok fun w => by kernel_rfl
theorem b8D (x : I0) : Pu Tryd.prog (xV (Instr.makeInterface 179 (.agg #[(Value.int .i64 x.d7.d5), (Value.string x.d7.d6), (Value.slice x.d7.i6.a x.d7.i6.n x.d7.i6.c), (Value.slice x.d7.p8.a x.d7.p8.n x.d7.p8.c), (Value.slice x.d7.G1.a x.d7.G1.n x.d7.G1.c), (Value.slice x.d7.E6.a x.d7.E6.n x.d7.E6.c)]))) (r9 (a8.C3 x)) := Pu.ok fun w => rfl
theorem a2m {g o : Nat} : Pu Tryd.prog (xV (Instr.fieldAt 58 (.pointer (some ⟨g, o, none⟩)) 1)) (.pointer (some ⟨g, o + 1, none⟩)) := Pu.ok fun w => by kernel_rfl
theorem c0y (x : a8) : Pu Tryd.prog (xV (Instr.typeAssert (r9 x) 152 177 true)) (.tuple #[(Value.agg #[(Value.string ((((x.P8)).M3).d6)), (Value.int .i64 ((((x.P8)).M3).C7))]), .bool (x.a3r)]) := by
  cases x <;> exact Pu.ok fun w => by kernel_rfl
theorem a9w {g o : Nat} : Pu Tryd.prog (xV (Instr.fieldAt 177 (.pointer (some ⟨g, o, none⟩)) 0)) (.pointer (some ⟨g, o + 0, none⟩)) := Pu.ok fun w => by kernel_rfl
theorem Z4 {g o : Nat} : Pu Tryd.prog (xV (Instr.fieldAt 58 (.pointer (some ⟨g, o, none⟩)) 0)) (.pointer (some ⟨g, o + 0, none⟩)) := Pu.ok fun w => by kernel_rfl
theorem c0z (x : a8) : Pu Tryd.prog (xV (Instr.typeAssert (r9 x) 152 179 true)) (.tuple #[(Value.agg #[(Value.int .i64 ((((x.i2)).d7).d5)), (Value.string ((((x.i2)).d7).d6)), (Value.slice ((((x.i2)).d7).i6).a ((((x.i2)).d7).i6).n ((((x.i2)).d7).i6).c), (Value.slice ((((x.i2)).d7).p8).a ((((x.i2)).d7).p8).n ((((x.i2)).d7).p8).c), (Value.slice ((((x.i2)).d7).G1).a ((((x.i2)).d7).G1).n ((((x.i2)).d7).G1).c), (Value.slice ((((x.i2)).d7).E6).a ((((x.i2)).d7).E6).n ((((x.i2)).d7).E6).c)]), .bool (x.a3s)]) := by
  cases x <;> exact Pu.ok fun w => by kernel_rfl
theorem G3 {g o : Nat} : Pu Tryd.prog (xV (Instr.fieldAt 179 (.pointer (some ⟨g, o, none⟩)) 0)) (.pointer (some ⟨g, o + 0, none⟩)) := Pu.ok fun w => by kernel_rfl
theorem c0A (x : a8) : Pu Tryd.prog (xV (Instr.typeAssert (r9 x) 152 123 true)) (.tuple #[(Value.agg #[(Value.int .i64 ((((x.o7)).k5).d5)), (Value.int .i64 ((((x.o7)).k5).G2)), (Value.string ((((x.o7)).k5).d6)), (Value.slice ((((x.o7)).k5).v8).a ((((x.o7)).k5).v8).n ((((x.o7)).k5).v8).c)]), .bool (x.a3q)]) := by
  cases x <;> exact Pu.ok fun w => by kernel_rfl
theorem T7 {g o : Nat} : Pu Tryd.prog (xV (Instr.fieldAt 123 (.pointer (some ⟨g, o, none⟩)) 0)) (.pointer (some ⟨g, o + 0, none⟩)) := Pu.ok fun w => by kernel_rfl
theorem c5A (a0 : Int) (w : World) : (Instr.buildSlice 45 1 #[(0, (Value.int .i64 a0))]).run Tryd.prog w = .ok (.slice (some ⟨w.heap.size, 0, none⟩) 1 1) (w.alloc (.cells [(Value.int .i64 a0)].toArray 2)) := by kernel_rfl
theorem a6V {g o : Nat} : Pu Tryd.prog (xV (Instr.fieldAt 90 (.pointer (some ⟨g, o, none⟩)) 2)) (.pointer (some ⟨g, o + 2, none⟩)) := Pu.ok fun w => by kernel_rfl
theorem a5b {g o : Nat} : Pu Tryd.prog (xV (Instr.fieldAt 90 (.pointer (some ⟨g, o, none⟩)) 3)) (.pointer (some ⟨g, o + 3, none⟩)) := Pu.ok fun w => by kernel_rfl
theorem c0B (a0 : Bool) (a1 : Int) : Pu Tryd.prog (xV (Instr.build 55 #[(0, (Value.bool a0)), (1, (Value.int .i64 a1))])) (.agg #[(Value.bool a0), (Value.int .i64 a1), (Value.bool false)]) := Pu.ok fun w => by kernel_rfl
abbrev R7 (x : a1r) : List Value := [(Value.bool x.e4d), (Value.int .i64 x.G2), (Value.bool x.f7Q)]
theorem a5z (x : a1r) : (R7 x).length = 3 := rfl
theorem a5A (x : a1r) : (R7 x).all (·.oneCell') = true := rfl
theorem c5B (R5 : Bool) (R6 : Int) (a7z : Bool) (w : World) : (Instr.buildSlice 46 1 #[(0, (Value.agg #[(Value.bool R5), (Value.int .i64 R6), (Value.bool a7z)]))]).run Tryd.prog w = .ok (.slice (some ⟨w.heap.size, 0, none⟩) 1 1) (w.alloc (.cells [(Value.bool R5), (Value.int .i64 R6), (Value.bool a7z)].toArray 55)) := by kernel_rfl
theorem e4f : Tryd.prog.info? 55 = some ((Tryd.prog.info? 55).getD default) := by kernel_rfl
theorem c9G {E : Pan} {w0 w : World} {ps : Nat → Prop} {H0 H : Hp} {Fs : List Frag} {K : Value → World → Prop} {s : Sl} {xs : List a1r} {F : Frag} {t2 : Sl} {ys : List a1r} {ks : List Bool} {ty : TypeId} (I : Inv w0 ps H0 H (F :: Fs) w) (hr : RowL 55 3 R7 s xs F) (hs : SrcO w R7 t2 ys) (hb : (xs.length + ys.length) * 25 ≤ 140737488355328) (h : ∀ (s' : Sl) (F' : Frag) (w' : World), RowL 55 3 R7 s' (xs ++ ys) F' → Inv w0 ps H0 H (F' :: Fs) w' → (∀ k, k < w.heap.size → (∀ p ∈ F, p.1 ≠ k) → w'.heap[k]? = w.heap[k]?) → K (.slice s'.a s'.n s'.c) w') : opK Tryd.prog E (xBuiltin .append #[46, 46] ty ks [.slice s.a s.n s.c, .slice t2.a t2.n t2.c]) w K :=
  b4b (bytes := 24) Tryd.underlying46 e4f (z := (Value.agg #[(Value.bool false), (Value.int .i64 0), (Value.bool false)])) (by kernel_rfl) (by kernel_rfl) (by kernel_rfl) (by kernel_rfl) I hr hs hb h
theorem b0S {g o : Nat} : Pu Tryd.prog (xV (Instr.fieldAt 90 (.pointer (some ⟨g, o, none⟩)) 5)) (.pointer (some ⟨g, o + 5, none⟩)) := Pu.ok fun w => by kernel_rfl
theorem c9H {a : Option Addr} {g o : Nat} (ha : a = some ⟨g, o, none⟩) (len cap : Nat) (k : IntKind) (i : Int) (h0 : 0 ≤ i) (h1 : i < len) : Pu Tryd.prog (xV (Instr.indexAt 104 (.slice a len cap) (.int k i))) (.pointer (some ⟨g, o + i.toNat * 1, none⟩)) := a0w Tryd.underlying104 Tryd.sizeOf9 ha len cap k i h0 h1
theorem Z5 {g o : Nat} : Pu Tryd.prog (xV (Instr.fieldAt 138 (.pointer (some ⟨g, o, none⟩)) 0)) (.pointer (some ⟨g, o + 0, none⟩)) := Pu.ok fun w => by kernel_rfl
theorem a3w (a0 : Int) (a1 : Int) : Pu Tryd.prog (xV (Instr.build 223 #[(0, (Value.int .i64 a0)), (1, (Value.int .i64 a1))])) (.agg #[(Value.int .i64 a0), (Value.int .i64 a1)]) := Pu.ok fun w => by kernel_rfl
theorem d8y (d : Nat) (a0 b0 : Int) (a1 b1 : Int) (w : World) : (Op.equalIn (d + 2) 223 (.agg #[(Value.int .i64 a0), (Value.int .i64 a1)]) (.agg #[(Value.int .i64 b0), (Value.int .i64 b1)])).run Tryd.prog w = .ok (decide (a0 = b0 ∧ a1 = b1)) w := by
  have u3 := Tryd.underlying3
  have i3 := Tryd.isAgg3
  have s3 := Tryd.sizeOf3
  have hS : Tryd.prog.underlying 223 = some (.struct (Tryd.prog.fieldsOf 223)) := by kernel_rfl
  rw [run_equalIn_agg w (d + 1) 223 _ _ hS (by kernel_rfl)]
  simp only [Program.fieldsOf, Tryd.underlying223]
  go_simp
  try simp only [c1h]
  by_cases h0 : a0 = b0
  · by_cases h1 : a1 = b1
    · simp [h0, h1]
    · simp [h0, h1]
  · simp [h0]
theorem a9b (x y : Operand) (a0 b0 : Int) (a1 b1 : Int) : Pu Tryd.prog (xBin .eql 223 x y (.agg #[(Value.int .i64 a0), (Value.int .i64 a1)]) (.agg #[(Value.int .i64 b0), (Value.int .i64 b1)])) (.bool (decide (a0 = b0 ∧ a1 = b1))) := by
  refine Pu.ok (s := do eqGuard .eql 223 x y (.agg #[(Value.int .i64 a0), (Value.int .i64 a1)]) (.agg #[(Value.int .i64 b0), (Value.int .i64 b1)]); binOp .eql 223 (.agg #[(Value.int .i64 a0), (Value.int .i64 a1)]) (.agg #[(Value.int .i64 b0), (Value.int .i64 b1)])) fun w => ?_
  rw [Sem.run_bind, run_eqGuard_agg w _ _ _ _ _ _ (by kernel_rfl), Result.andThen_ok, run_eql_struct, show (10000 : Nat) = 9998 + 2 from rfl, d8y]
  rfl
theorem c6A  : Pu Tryd.prog (xV (Instr.build 223 #[])) (.agg #[(Value.int .i64 0), (Value.int .i64 0)]) := Pu.ok fun w => by kernel_rfl
theorem a0M (a0 : Int) (a1 : Int) : Pu Tryd.prog (xV (Instr.build 227 #[(0, (Value.int .i64 a0)), (1, (Value.int .i64 a1))])) (.agg #[(Value.int .i64 a0), (Value.int .i64 a1)]) := Pu.ok fun w => by kernel_rfl
theorem d8z (d : Nat) (a0 b0 : Int) (a1 b1 : Int) (w : World) : (Op.equalIn (d + 2) 227 (.agg #[(Value.int .i64 a0), (Value.int .i64 a1)]) (.agg #[(Value.int .i64 b0), (Value.int .i64 b1)])).run Tryd.prog w = .ok (decide (a0 = b0 ∧ a1 = b1)) w := by
  have u3 := Tryd.underlying3
  have i3 := Tryd.isAgg3
  have s3 := Tryd.sizeOf3
  have hS : Tryd.prog.underlying 227 = some (.struct (Tryd.prog.fieldsOf 227)) := by kernel_rfl
  rw [run_equalIn_agg w (d + 1) 227 _ _ hS (by kernel_rfl)]
  simp only [Program.fieldsOf, Tryd.underlying227]
  go_simp
  try simp only [c1h]
  by_cases h0 : a0 = b0
  · by_cases h1 : a1 = b1
    · simp [h0, h1]
    · simp [h0, h1]
  · simp [h0]
theorem a4M (x y : Operand) (a0 b0 : Int) (a1 b1 : Int) : Pu Tryd.prog (xBin .eql 227 x y (.agg #[(Value.int .i64 a0), (Value.int .i64 a1)]) (.agg #[(Value.int .i64 b0), (Value.int .i64 b1)])) (.bool (decide (a0 = b0 ∧ a1 = b1))) := by
  refine Pu.ok (s := do eqGuard .eql 227 x y (.agg #[(Value.int .i64 a0), (Value.int .i64 a1)]) (.agg #[(Value.int .i64 b0), (Value.int .i64 b1)]); binOp .eql 227 (.agg #[(Value.int .i64 a0), (Value.int .i64 a1)]) (.agg #[(Value.int .i64 b0), (Value.int .i64 b1)])) fun w => ?_
  rw [Sem.run_bind, run_eqGuard_agg w _ _ _ _ _ _ (by kernel_rfl), Result.andThen_ok, run_eql_struct, show (10000 : Nat) = 9998 + 2 from rfl, d8z]
  rfl
theorem c6B  : Pu Tryd.prog (xV (Instr.build 227 #[])) (.agg #[(Value.int .i64 0), (Value.int .i64 0)]) := Pu.ok fun w => by kernel_rfl
theorem d2D (a0a : Option Addr) (a0n a0c : Nat) (a1a : Option Addr) (a1n a1c : Nat) (a2a : Option Addr) (a2n a2c : Nat) (a3a : Option Addr) (a3n a3c : Nat) (w : World) : (Instr.buildSlice 174 4 #[(0, (Value.slice a0a a0n a0c)), (1, (Value.slice a1a a1n a1c)), (2, (Value.slice a2a a2n a2c)), (3, (Value.slice a3a a3n a3c))]).run Tryd.prog w = .ok (.slice (some ⟨w.heap.size, 0, none⟩) 4 4) (w.alloc (.cells [(Value.slice a0a a0n a0c), (Value.slice a1a a1n a1c), (Value.slice a2a a2n a2c), (Value.slice a3a a3n a3c)].toArray 124)) := by kernel_rfl
abbrev t7 (x : A5) : List Value := [(Value.slice x.a3X.a x.a3X.n x.a3X.c), (Value.slice x.a6f.a x.a6f.n x.a6f.c)]
abbrev o9 (x : M9) : List Value := [(Value.int .i64 x.X5), (Value.int .i64 x.a9U), (Value.int .i64 x.a3Y), (Value.slice x.a9V.a x.a9V.n x.a9V.c), (Value.slice x.S9.a x.S9.n x.S9.c), (Value.slice x.a9W.a x.a9W.n x.a9W.c)]
abbrev a3x (x : g7) : List Value := [(Value.int .i64 x.fnodes), (Value.int .i64 x.fdepth), (Value.int .i64 x.fe), (Value.bool x.fform), (Value.bool x.fnamed), (Value.slice x.fnames.a x.fnames.n x.fnames.c)]
end Go.Proofs.YtnhkdkcgdcgmdaaDoor
