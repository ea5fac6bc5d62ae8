/- Single operations at this program's types, and its structures; printed by lift.py. -/
import Derived.Test.YtnhkdkcgdcgmdaaDoorProg
import Derived.Test.YtnhkdkcgdcgmdaaDoorzSS5
import Derived.KernelRfl
import Derived.Laws.StructEq
import Derived.Laws.Tables
import Derived.Laws.Cover2
namespace Go.Proofs.YtnhkdkcgdcgmdaaDoor
open Go.RowKit
set_option maxRecDepth 100000
set_option maxHeartbeats 2000000
structure i4 where
  b9 : Int
  I0 : Int
  d5 : ByteArray
  y9 : Sl
structure u5 where
  b9 : Int
  fOp : Int
  i8 : Sl
  t6 : Sl
structure q8 where
  a2j : Sl
  a3D : Sl
structure K6 where
  P7 : Int
  a5l : Int
  Y1 : Int
  b0k : Sl
  V2 : Sl
  R4 : Sl
structure a1A where
  e5F : Bool
  I0 : Int
  f9D : Bool
structure j7 where
  d5 : ByteArray
  E4 : Int
structure m9 where
  b9 : Int
  d5 : ByteArray
  i8 : Sl
  q9 : Sl
  G9 : Sl
  G3 : Sl
structure g7 where
  fnodes : Int
  fdepth : Int
  fe : Int
  fform : Bool
  fnamed : Bool
  fnames : Sl
structure d9 where
  fl : Sl
structure b7 where
  fname : ByteArray
  fas : Int
structure D9 where
  l0 : i4
structure b5L where
  fn : Int
  fdepth : Int
  fbad : Int
structure b5M where
  fok : Bool
  fnames : Bool
structure K7 where
  j9 : u5
structure N3 where
  N4 : j7
structure K8 where
  d7 : m9
structure g5N where
  f0 : Int
  f1 : Int
structure D4 where
  fexprs : Int
  fparts : Int
structure L1 where
  fexprs : Int
  fconds : Int
inductive a8 where
  | nil
  | C2 (x : D9)
  | G7 (x : K7)
  | E8 (x : N3)
  | C9 (x : K8)
def t8 : a8 → Value
  | .nil => .nilIface
  | .C2 x => .iface 123 (.agg #[(Value.int .i64 x.l0.b9), (Value.int .i64 x.l0.I0), (Value.string x.l0.d5), (Value.slice x.l0.y9.a x.l0.y9.n x.l0.y9.c)])
  | .G7 x => .iface 138 (.agg #[(Value.int .i64 x.j9.b9), (Value.int .i64 x.j9.fOp), (Value.slice x.j9.i8.a x.j9.i8.n x.j9.i8.c), (Value.slice x.j9.t6.a x.j9.t6.n x.j9.t6.c)])
  | .E8 x => .iface 177 (.agg #[(Value.string x.N4.d5), (Value.int .i64 x.N4.E4)])
  | .C9 x => .iface 179 (.agg #[(Value.int .i64 x.d7.b9), (Value.string x.d7.d5), (Value.slice x.d7.i8.a x.d7.i8.n x.d7.i8.c), (Value.slice x.d7.q9.a x.d7.q9.n x.d7.q9.c), (Value.slice x.d7.G9.a x.d7.G9.n x.d7.G9.c), (Value.slice x.d7.G3.a x.d7.G3.n x.d7.G3.c)])
theorem c0R (x : a8) : [t8 x].all (·.oneCell') = true := by cases x <;> rfl
def a8.p5 : a8 → D9
  | .C2 x => x
  | _ => (D9.mk (i4.mk 0 0 ⟨#[]⟩ (Sl.mk none 0 0)))
def a8.a3E : a8 → Bool
  | .C2 _ => true
  | _ => false
def a8.R5 : a8 → N3
  | .E8 x => x
  | _ => (N3.mk (j7.mk ⟨#[]⟩ 0))
def a8.a3F : a8 → Bool
  | .E8 _ => true
  | _ => false
def a8.i5 : a8 → K8
  | .C9 x => x
  | _ => (K8.mk (m9.mk 0 ⟨#[]⟩ (Sl.mk none 0 0) (Sl.mk none 0 0) (Sl.mk none 0 0) (Sl.mk none 0 0)))
def a8.a3G : a8 → Bool
  | .C9 _ => true
  | _ => false
theorem V3 {g o : Nat} : Pu Tryd.prog (xV (Instr.fieldAt 24 (.pointer (some ⟨g, o, none⟩)) 0)) (.pointer (some ⟨g, o + 0, none⟩)) := Pu.ok fun w => by kernel_rfl
theorem a3H {g o : Nat} : Pu Tryd.prog (xV (Instr.fieldAt 24 (.pointer (some ⟨g, o, none⟩)) 3)) (.pointer (some ⟨g, o + 3, none⟩)) := Pu.ok fun w => by kernel_rfl
theorem a2t (a : Option Addr) (n c : Nat) : Pu Tryd.prog (xBuiltin .len #[22] 3 [false] [.slice a n c]) (.int .i64 (n : Int)) := U8 Tryd.underlying22 a n c
theorem a7a {g o : Nat} : Pu Tryd.prog (xV (Instr.fieldAt 27 (.pointer (some ⟨g, o, none⟩)) 0)) (.pointer (some ⟨g, o + 0, none⟩)) := Pu.ok fun w => by kernel_rfl
theorem a1B {g o : Nat} : Pu Tryd.prog (xV (Instr.fieldAt 27 (.pointer (some ⟨g, o, none⟩)) 3)) (.pointer (some ⟨g, o + 3, none⟩)) := Pu.ok fun w => by kernel_rfl
theorem a6A (a : Option Addr) (n c : Nat) : Pu Tryd.prog (xBuiltin .len #[25] 3 [false] [.slice a n c]) (.int .i64 (n : Int)) := U8 Tryd.underlying25 a n c
theorem a5m {g o : Nat} : Pu Tryd.prog (xV (Instr.fieldAt 27 (.pointer (some ⟨g, o, none⟩)) 2)) (.pointer (some ⟨g, o + 2, none⟩)) := Pu.ok fun w => by kernel_rfl
theorem a5b (a : Option Addr) (n c : Nat) : Pu Tryd.prog (xBuiltin .len #[45] 3 [false] [.slice a n c]) (.int .i64 (n : Int)) := U8 Tryd.underlying45 a n c
theorem a7b {g o : Nat} : Pu Tryd.prog (xV (Instr.fieldAt 49 (.pointer (some ⟨g, o, none⟩)) 2)) (.pointer (some ⟨g, o + 2, none⟩)) := Pu.ok fun w => by kernel_rfl
theorem a7c {g o : Nat} : Pu Tryd.prog (xV (Instr.fieldAt 49 (.pointer (some ⟨g, o, none⟩)) 0)) (.pointer (some ⟨g, o + 0, none⟩)) := Pu.ok fun w => by kernel_rfl
theorem b7h {g o : Nat} : Pu Tryd.prog (xV (Instr.fieldAt 49 (.pointer (some ⟨g, o, none⟩)) 1)) (.pointer (some ⟨g, o + 1, none⟩)) := Pu.ok fun w => by kernel_rfl
theorem Q9 {a : Option Addr} {g o : Nat} (ha : a = some ⟨g, o, none⟩) (len cap : Nat) (k : IntKind) (i : Int) (h0 : 0 ≤ i) (h1 : i < len) : Pu Tryd.prog (xV (Instr.indexAt 45 (.slice a len cap) (.int k i))) (.pointer (some ⟨g, o + i.toNat * 1, none⟩)) := a0g Tryd.underlying45 Tryd.sizeOf2 ha len cap k i h0 h1
abbrev b5N (x : Int) : List Value := [(Value.int .i64 x)]
theorem d8D : Tryd.prog.info? 2 = some ((Tryd.prog.info? 2).getD default) := by kernel_rfl
theorem d0m {E : Pan} {w0 w : World} {ps : Nat → Prop} {H0 H : Hp} {Fs : List Frag} {K : Value → World → Prop} {s : Sl} {xs : List Int} {F : Frag} {t2 : Sl} {ys : List Int} {ks : List Bool} {ty : TypeId} (I : Inv w0 ps H0 H (F :: Fs) w) (hr : RowL 2 1 b5N s xs F) (hs : SrcO w b5N t2 ys) (hb : (xs.length + ys.length) * 9 ≤ 140737488355328) (h : ∀ (s' : Sl) (F' : Frag) (w' : World), RowL 2 1 b5N s' (xs ++ ys) F' → Inv w0 ps H0 H (F' :: Fs) w' → (∀ k, k < w.heap.size → (∀ p ∈ F, p.1 ≠ k) → w'.heap[k]? = w.heap[k]?) → K (.slice s'.a s'.n s'.c) w') : opK Tryd.prog E (xBuiltin .append #[45, 45] ty ks [.slice s.a s.n s.c, .slice t2.a t2.n t2.c]) w K :=
  b4t (bytes := 8) Tryd.underlying45 d8D (z := (Value.int .i64 0)) (by kernel_rfl) (by kernel_rfl) (by kernel_rfl) (by kernel_rfl) I hr hs hb h
theorem b5A (a0 : ByteArray) : Pu Tryd.prog (xV (Instr.build 58 #[(0, (Value.string a0))])) (.agg #[(Value.string a0), (Value.int .i64 0)]) := Pu.ok fun w => by kernel_rfl
abbrev m3 (x : j7) : List Value := [(Value.string x.d5), (Value.int .i64 x.E4)]
theorem b2v (x : j7) : (m3 x).length = 2 := rfl
theorem b2w (x : j7) : (m3 x).all (·.oneCell') = true := rfl
theorem d9N (S8 : ByteArray) (S9 : Int) (w : World) : (Instr.buildSlice 41 1 #[(0, (Value.agg #[(Value.string S8), (Value.int .i64 S9)]))]).run Tryd.prog w = .ok (.slice (some ⟨w.heap.size, 0, none⟩) 1 1) (w.alloc (.cells [(Value.string S8), (Value.int .i64 S9)].toArray 58)) := by kernel_rfl
abbrev i7 (x : u5) : List Value := [(Value.int .i64 x.b9), (Value.int .i64 x.fOp), (Value.slice x.i8.a x.i8.n x.i8.c), (Value.slice x.t6.a x.t6.n x.t6.c)]
abbrev f8 (x : m9) : List Value := [(Value.int .i64 x.b9), (Value.string x.d5), (Value.slice x.i8.a x.i8.n x.i8.c), (Value.slice x.q9.a x.q9.n x.q9.c), (Value.slice x.G9.a x.G9.n x.G9.c), (Value.slice x.G3.a x.G3.n x.G3.c)]
theorem b2x (x : m9) : (f8 x).length = 6 := rfl
theorem b2y (x : m9) : (f8 x).all (·.oneCell') = true := rfl
theorem b2z (a0a : Option Addr) (a0n a0c : Nat) (a1a : Option Addr) (a1n a1c : Nat) : Pu Tryd.prog (xV (Instr.build 44 #[(0, (Value.slice a0a a0n a0c)), (1, (Value.slice a1a a1n a1c))])) (.agg #[(Value.slice a0a a0n a0c), (Value.slice a1a a1n a1c)]) := Pu.ok fun w => by kernel_rfl
theorem a3I {g o : Nat} : Pu Tryd.prog (xV (Instr.fieldAt 49 (.pointer (some ⟨g, o, none⟩)) 4)) (.pointer (some ⟨g, o + 4, none⟩)) := Pu.ok fun w => by kernel_rfl
theorem c0S (a0 : ByteArray) (a1 : Int) : Pu Tryd.prog (xV (Instr.build 58 #[(0, (Value.string a0)), (1, (Value.int .i64 a1))])) (.agg #[(Value.string a0), (Value.int .i64 a1)]) := Pu.ok fun w => by kernel_rfl
theorem d9O (S8 : ByteArray) (S9 : Int) (b2P : ByteArray) (b2Q : Int) (w : World) : (Instr.buildSlice 41 2 #[(0, (Value.agg #[(Value.string S8), (Value.int .i64 S9)])), (1, (Value.agg #[(Value.string b2P), (Value.int .i64 b2Q)]))]).run Tryd.prog w = .ok (.slice (some ⟨w.heap.size, 0, none⟩) 2 2) (w.alloc (.cells [(Value.string S8), (Value.int .i64 S9), (Value.string b2P), (Value.int .i64 b2Q)].toArray 58)) := by kernel_rfl
abbrev b8 (x : i4) : List Value := [(Value.int .i64 x.b9), (Value.int .i64 x.I0), (Value.string x.d5), (Value.slice x.y9.a x.y9.n x.y9.c)]
theorem a0u (x : i4) : (b8 x).length = 4 := rfl
theorem a0v (x : i4) : (b8 x).all (·.oneCell') = true := rfl
theorem c5T (S8 : Int) (S9 : Int) (a7M : ByteArray) (a0_3a : Option Addr) (a0_3n a0_3c : Nat) (b2P : Int) (b2Q : Int) (e5G : ByteArray) (a1_3a : Option Addr) (a1_3n a1_3c : Nat) (w : World) : (Instr.buildSlice 22 2 #[(0, (Value.agg #[(Value.int .i64 S8), (Value.int .i64 S9), (Value.string a7M), (Value.slice a0_3a a0_3n a0_3c)])), (1, (Value.agg #[(Value.int .i64 b2P), (Value.int .i64 b2Q), (Value.string e5G), (Value.slice a1_3a a1_3n a1_3c)]))]).run Tryd.prog w = .ok (.slice (some ⟨w.heap.size, 0, none⟩) 2 2) (w.alloc (.cells [(Value.int .i64 S8), (Value.int .i64 S9), (Value.string a7M), (Value.slice a0_3a a0_3n a0_3c), (Value.int .i64 b2P), (Value.int .i64 b2Q), (Value.string e5G), (Value.slice a1_3a a1_3n a1_3c)].toArray 24)) := by kernel_rfl
theorem a3o (a0 : Int) (a1 : ByteArray) (a2a : Option Addr) (a2n a2c : Nat) : Pu Tryd.prog (xV (Instr.build 63 #[(0, (Value.int .i64 a0)), (1, (Value.string a1)), (2, (Value.slice a2a a2n a2c))])) (.agg #[(Value.int .i64 a0), (Value.string a1), (Value.slice a2a a2n a2c), (Value.slice none 0 0), (Value.slice none 0 0), (Value.slice none 0 0)]) := Pu.ok fun w => by kernel_rfl
theorem b0l (S8 : Int) (S9 : Int) (a7M : ByteArray) (a0_3a : Option Addr) (a0_3n a0_3c : Nat) (w : World) : (Instr.buildSlice 22 1 #[(0, (Value.agg #[(Value.int .i64 S8), (Value.int .i64 S9), (Value.string a7M), (Value.slice a0_3a a0_3n a0_3c)]))]).run Tryd.prog w = .ok (.slice (some ⟨w.heap.size, 0, none⟩) 1 1) (w.alloc (.cells [(Value.int .i64 S8), (Value.int .i64 S9), (Value.string a7M), (Value.slice a0_3a a0_3n a0_3c)].toArray 24)) := by kernel_rfl
theorem b7i (a0 : Int) (a2 : ByteArray) (a3a : Option Addr) (a3n a3c : Nat) : Pu Tryd.prog (xV (Instr.build 24 #[(0, (Value.int .i64 a0)), (2, (Value.string a2)), (3, (Value.slice a3a a3n a3c))])) (.agg #[(Value.int .i64 a0), (Value.int .i64 0), (Value.string a2), (Value.slice a3a a3n a3c)]) := Pu.ok fun w => by kernel_rfl
theorem c5U (S8 : Int) (S9 : ByteArray) (a0_2a : Option Addr) (a0_2n a0_2c : Nat) (a0_3a : Option Addr) (a0_3n a0_3c : Nat) (a0_4a : Option Addr) (a0_4n a0_4c : Nat) (a0_5a : Option Addr) (a0_5n a0_5c : Nat) (b2P : Int) (b2Q : ByteArray) (a1_2a : Option Addr) (a1_2n a1_2c : Nat) (a1_3a : Option Addr) (a1_3n a1_3c : Nat) (a1_4a : Option Addr) (a1_4n a1_4c : Nat) (a1_5a : Option Addr) (a1_5n a1_5c : Nat) (w : World) : (Instr.buildSlice 42 2 #[(0, (Value.agg #[(Value.int .i64 S8), (Value.string S9), (Value.slice a0_2a a0_2n a0_2c), (Value.slice a0_3a a0_3n a0_3c), (Value.slice a0_4a a0_4n a0_4c), (Value.slice a0_5a a0_5n a0_5c)])), (1, (Value.agg #[(Value.int .i64 b2P), (Value.string b2Q), (Value.slice a1_2a a1_2n a1_2c), (Value.slice a1_3a a1_3n a1_3c), (Value.slice a1_4a a1_4n a1_4c), (Value.slice a1_5a a1_5n a1_5c)]))]).run Tryd.prog w = .ok (.slice (some ⟨w.heap.size, 0, none⟩) 2 2) (w.alloc (.cells [(Value.int .i64 S8), (Value.string S9), (Value.slice a0_2a a0_2n a0_2c), (Value.slice a0_3a a0_3n a0_3c), (Value.slice a0_4a a0_4n a0_4c), (Value.slice a0_5a a0_5n a0_5c), (Value.int .i64 b2P), (Value.string b2Q), (Value.slice a1_2a a1_2n a1_2c), (Value.slice a1_3a a1_3n a1_3c), (Value.slice a1_4a a1_4n a1_4c), (Value.slice a1_5a a1_5n a1_5c)].toArray 63)) := by kernel_rfl
theorem a5n {g o : Nat} : Pu Tryd.prog (xV (Instr.fieldAt 49 (.pointer (some ⟨g, o, none⟩)) 5)) (.pointer (some ⟨g, o + 5, none⟩)) := Pu.ok fun w => by kernel_rfl
theorem d0n (a : Option Addr) (n c : Nat) : Pu Tryd.prog (xBuiltin .len #[47] 3 [false] [.slice a n c]) (.int .i64 (n : Int)) := U8 Tryd.underlying47 a n c
theorem c1K {a : Option Addr} {g o : Nat} (ha : a = some ⟨g, o, none⟩) (len cap : Nat) (k : IntKind) (i : Int) (h0 : 0 ≤ i) (h1 : i < len) : Pu Tryd.prog (xV (Instr.indexAt 47 (.slice a len cap) (.int k i))) (.pointer (some ⟨g, o + i.toNat * 1, none⟩)) := a0g Tryd.underlying47 Tryd.sizeOf45 ha len cap k i h0 h1
theorem b2A (a0 : Int) (a3a : Option Addr) (a3n a3c : Nat) : Pu Tryd.prog (xV (Instr.build 24 #[(0, (Value.int .i64 a0)), (3, (Value.slice a3a a3n a3c))])) (.agg #[(Value.int .i64 a0), (Value.int .i64 0), (Value.string ⟨#[]⟩), (Value.slice a3a a3n a3c)]) := Pu.ok fun w => by kernel_rfl
theorem c0T (a0 : Int) (a2 : ByteArray) : Pu Tryd.prog (xV (Instr.build 24 #[(0, (Value.int .i64 a0)), (2, (Value.string a2))])) (.agg #[(Value.int .i64 a0), (Value.int .i64 0), (Value.string a2), (Value.slice none 0 0)]) := Pu.ok fun w => by kernel_rfl
theorem a1g {a : Option Addr} {g o : Nat} (ha : a = some ⟨g, o, none⟩) (len cap : Nat) (k : IntKind) (i : Int) (h0 : 0 ≤ i) (h1 : i < len) : Pu Tryd.prog (xV (Instr.indexAt 22 (.slice a len cap) (.int k i))) (.pointer (some ⟨g, o + i.toNat * 4, none⟩)) := a0g Tryd.underlying22 Tryd.sizeOf24 ha len cap k i h0 h1
theorem a7d {g o : Nat} : Pu Tryd.prog (xV (Instr.fieldAt 24 (.pointer (some ⟨g, o, none⟩)) 1)) (.pointer (some ⟨g, o + 1, none⟩)) := Pu.ok fun w => by kernel_rfl
theorem a3J {g o : Nat} : Pu Tryd.prog (xV (Instr.fieldAt 24 (.pointer (some ⟨g, o, none⟩)) 2)) (.pointer (some ⟨g, o + 2, none⟩)) := Pu.ok fun w => by kernel_rfl
theorem a7e {g o : Nat} : Pu Tryd.prog (xV (Instr.fieldAt 27 (.pointer (some ⟨g, o, none⟩)) 1)) (.pointer (some ⟨g, o + 1, none⟩)) := Pu.ok fun w => by kernel_rfl
theorem a2x {a : Option Addr} {g o : Nat} (ha : a = some ⟨g, o, none⟩) (len cap : Nat) (k : IntKind) (i : Int) (h0 : 0 ≤ i) (h1 : i < len) : Pu Tryd.prog (xV (Instr.indexAt 25 (.slice a len cap) (.int k i))) (.pointer (some ⟨g, o + i.toNat * 4, none⟩)) := a0g Tryd.underlying25 Tryd.sizeOf27 ha len cap k i h0 h1
theorem a4w (a0 : Int) (a1 : Int) : Pu Tryd.prog (xV (Instr.build 24 #[(0, (Value.int .i64 a0)), (1, (Value.int .i64 a1))])) (.agg #[(Value.int .i64 a0), (Value.int .i64 a1), (Value.string ⟨#[]⟩), (Value.slice none 0 0)]) := Pu.ok fun w => by kernel_rfl
theorem d3l (x y : Operand) (a b : Bool) : Pu Tryd.prog (xBin .eql 4 x y (.bool a) (.bool b)) (.bool (a == b)) := e5x _ _ _ a b Tryd.underlying4
theorem b0Z (x y : Operand) (a b : Bool) : Pu Tryd.prog (xBin .neq 4 x y (.bool a) (.bool b)) (.bool (a != b)) := e5y _ _ _ a b Tryd.underlying4
theorem b1a {g o : Nat} : Pu Tryd.prog (xV (Instr.fieldAt 44 (.pointer (some ⟨g, o, none⟩)) 1)) (.pointer (some ⟨g, o + 1, none⟩)) := Pu.ok fun w => by kernel_rfl
theorem a4o {g o : Nat} : Pu Tryd.prog (xV (Instr.fieldAt 106 (.pointer (some ⟨g, o, none⟩)) 2)) (.pointer (some ⟨g, o + 2, none⟩)) := Pu.ok fun w => by kernel_rfl
theorem b5B {g o : Nat} : Pu Tryd.prog (xV (Instr.fieldAt 106 (.pointer (some ⟨g, o, none⟩)) 1)) (.pointer (some ⟨g, o + 1, none⟩)) := Pu.ok fun w => by kernel_rfl
theorem a9L {g o : Nat} : Pu Tryd.prog (xV (Instr.fieldAt 106 (.pointer (some ⟨g, o, none⟩)) 0)) (.pointer (some ⟨g, o + 0, none⟩)) := Pu.ok fun w => by kernel_rfl
theorem a7f {g o : Nat} : Pu Tryd.prog (xV (Instr.fieldAt 44 (.pointer (some ⟨g, o, none⟩)) 0)) (.pointer (some ⟨g, o + 0, none⟩)) := Pu.ok fun w => by kernel_rfl
theorem c6S  : Pu Tryd.prog (xV (Instr.build 114 #[])) (.agg #[(Value.slice none 0 0)]) := Pu.ok fun w => by kernel_rfl
abbrev o7 (x : b7) : List Value := [(Value.string x.fname), (Value.int .i64 x.fas)]
theorem a2X (x : b7) : (o7 x).length = 2 := rfl
theorem a2Y (x : b7) : (o7 x).all (·.oneCell') = true := rfl
theorem a5c (a : Option Addr) (n c : Nat) : Pu Tryd.prog (xBuiltin .len #[42] 3 [false] [.slice a n c]) (.int .i64 (n : Int)) := U8 Tryd.underlying42 a n c
theorem b5O {a : Option Addr} {g o : Nat} (ha : a = some ⟨g, o, none⟩) (len cap : Nat) (k : IntKind) (i : Int) (h0 : 0 ≤ i) (h1 : i < len) : Pu Tryd.prog (xV (Instr.indexAt 42 (.slice a len cap) (.int k i))) (.pointer (some ⟨g, o + i.toNat * 6, none⟩)) := a0g Tryd.underlying42 Tryd.sizeOf63 ha len cap k i h0 h1
theorem a5o {g o : Nat} : Pu Tryd.prog (xV (Instr.fieldAt 63 (.pointer (some ⟨g, o, none⟩)) 0)) (.pointer (some ⟨g, o + 0, none⟩)) := Pu.ok fun w => by kernel_rfl
theorem a0h {g o : Nat} : Pu Tryd.prog (xV (Instr.fieldAt 114 (.pointer (some ⟨g, o, none⟩)) 0)) (.pointer (some ⟨g, o + 0, none⟩)) := Pu.ok fun w => by kernel_rfl
theorem a1C {g o : Nat} : Pu Tryd.prog (xV (Instr.fieldAt 63 (.pointer (some ⟨g, o, none⟩)) 1)) (.pointer (some ⟨g, o + 1, none⟩)) := Pu.ok fun w => by kernel_rfl
theorem a3K (a0 : ByteArray) (a1 : Int) : Pu Tryd.prog (xV (Instr.build 117 #[(0, (Value.string a0)), (1, (Value.int .i64 a1))])) (.agg #[(Value.string a0), (Value.int .i64 a1)]) := Pu.ok fun w => by kernel_rfl
theorem b1b (S8 : ByteArray) (S9 : Int) (w : World) : (Instr.buildSlice 112 1 #[(0, (Value.agg #[(Value.string S8), (Value.int .i64 S9)]))]).run Tryd.prog w = .ok (.slice (some ⟨w.heap.size, 0, none⟩) 1 1) (w.alloc (.cells [(Value.string S8), (Value.int .i64 S9)].toArray 117)) := by kernel_rfl
theorem d9P : Tryd.prog.info? 117 = some ((Tryd.prog.info? 117).getD default) := by kernel_rfl
theorem b4z {E : Pan} {w0 w : World} {ps : Nat → Prop} {H0 H : Hp} {Fs : List Frag} {K : Value → World → Prop} {s : Sl} {xs : List b7} {F : Frag} {t2 : Sl} {ys : List b7} {ks : List Bool} {ty : TypeId} (I : Inv w0 ps H0 H (F :: Fs) w) (hr : RowL 117 2 o7 s xs F) (hs : SrcO w o7 t2 ys) (hb : (xs.length + ys.length) * 25 ≤ 140737488355328) (h : ∀ (s' : Sl) (F' : Frag) (w' : World), RowL 117 2 o7 s' (xs ++ ys) F' → Inv w0 ps H0 H (F' :: Fs) w' → (∀ k, k < w.heap.size → (∀ p ∈ F, p.1 ≠ k) → w'.heap[k]? = w.heap[k]?) → K (.slice s'.a s'.n s'.c) w') : opK Tryd.prog E (xBuiltin .append #[112, 112] ty ks [.slice s.a s.n s.c, .slice t2.a t2.n t2.c]) w K :=
  b4t (bytes := 24) Tryd.underlying112 d9P (z := (Value.agg #[(Value.string ⟨#[]⟩), (Value.int .i64 0)])) (by kernel_rfl) (by kernel_rfl) (by kernel_rfl) (by kernel_rfl) I hr hs hb h
theorem a7g {g o : Nat} : Pu Tryd.prog (xV (Instr.fieldAt 63 (.pointer (some ⟨g, o, none⟩)) 3)) (.pointer (some ⟨g, o + 3, none⟩)) := Pu.ok fun w => by kernel_rfl
theorem a5p {g o : Nat} : Pu Tryd.prog (xV (Instr.fieldAt 63 (.pointer (some ⟨g, o, none⟩)) 2)) (.pointer (some ⟨g, o + 2, none⟩)) := Pu.ok fun w => by kernel_rfl
theorem a5q {g o : Nat} : Pu Tryd.prog (xV (Instr.fieldAt 63 (.pointer (some ⟨g, o, none⟩)) 4)) (.pointer (some ⟨g, o + 4, none⟩)) := Pu.ok fun w => by kernel_rfl
theorem a5r {g o : Nat} : Pu Tryd.prog (xV (Instr.fieldAt 63 (.pointer (some ⟨g, o, none⟩)) 5)) (.pointer (some ⟨g, o + 5, none⟩)) := Pu.ok fun w => by kernel_rfl
theorem d0o {a : Option Addr} {g o : Nat} (ha : a = some ⟨g, o, none⟩) (len cap : Nat) (k : IntKind) (i : Int) (h0 : 0 ≤ i) (h1 : i < len) : Pu Tryd.prog (xV (Instr.indexAt 112 (.slice a len cap) (.int k i))) (.pointer (some ⟨g, o + i.toNat * 2, none⟩)) := a0g Tryd.underlying112 Tryd.sizeOf117 ha len cap k i h0 h1
theorem a9M {g o : Nat} : Pu Tryd.prog (xV (Instr.fieldAt 117 (.pointer (some ⟨g, o, none⟩)) 0)) (.pointer (some ⟨g, o + 0, none⟩)) := Pu.ok fun w => by kernel_rfl
theorem c5D {g o : Nat} : Pu Tryd.prog (xV (Instr.fieldAt 117 (.pointer (some ⟨g, o, none⟩)) 1)) (.pointer (some ⟨g, o + 1, none⟩)) := Pu.ok fun w => by kernel_rfl
theorem c1L (S8 : Int) (S9 : Int) (a7M : ByteArray) (a0_3a : Option Addr) (a0_3n a0_3c : Nat) : Pu Tryd.prog (xV (Instr.build 123 #[(0, (Value.agg #[(Value.int .i64 S8), (Value.int .i64 S9), (Value.string a7M), (Value.slice a0_3a a0_3n a0_3c)]))])) (.agg #[(Value.int .i64 S8), (Value.int .i64 S9), (Value.string a7M), (Value.slice a0_3a a0_3n a0_3c)]) := Pu.ok fun w => by kernel_rfl
theorem b0m (x : D9) : Pu Tryd.prog (xV (Instr.makeInterface 123 (.agg #[(Value.int .i64 x.l0.b9), (Value.int .i64 x.l0.I0), (Value.string x.l0.d5), (Value.slice x.l0.y9.a x.l0.y9.n x.l0.y9.c)]))) (t8 (a8.C2 x)) := Pu.ok fun w => rfl
abbrev o2 (x : a8) : List Value := [(t8 x)]
theorem M7 (x : a8) : (o2 x).length = 1 := rfl
theorem O9 (x : a8) : (o2 x).all (·.oneCell') = true := c0R x
theorem b1c (a0 : a8) (w : World) : (Instr.buildSlice 124 1 #[(0, (t8 a0))]).run Tryd.prog w = .ok (.slice (some ⟨w.heap.size, 0, none⟩) 1 1) (w.alloc (.cells [(t8 a0)].toArray 152)) := by cases a0 <;> kernel_rfl
theorem c1M (S8 : Int) (S9 : Int) (a0_2a : Option Addr) (a0_2n a0_2c : Nat) (a0_3a : Option Addr) (a0_3n a0_3c : Nat) : Pu Tryd.prog (xV (Instr.build 138 #[(0, (Value.agg #[(Value.int .i64 S8), (Value.int .i64 S9), (Value.slice a0_2a a0_2n a0_2c), (Value.slice a0_3a a0_3n a0_3c)]))])) (.agg #[(Value.int .i64 S8), (Value.int .i64 S9), (Value.slice a0_2a a0_2n a0_2c), (Value.slice a0_3a a0_3n a0_3c)]) := Pu.ok fun w => by kernel_rfl
theorem b8U (x : K7) : Pu Tryd.prog (xV (Instr.makeInterface 138 (.agg #[(Value.int .i64 x.j9.b9), (Value.int .i64 x.j9.fOp), (Value.slice x.j9.i8.a x.j9.i8.n x.j9.i8.c), (Value.slice x.j9.t6.a x.j9.t6.n x.j9.t6.c)]))) (t8 (a8.G7 x)) := Pu.ok fun w => rfl
theorem b7j (k : IntKind) (n : Int) : Pu Tryd.prog (xV (convert 2 96 (.int k n))) (.int .u64 (IntKind.wrap .u64 n)) := Pu.ok fun w => run_convert_int (P := Tryd.prog) (w := w) 2 96 k n (by rw [Tryd.underlying2]; rfl) Tryd.underlying96
theorem c1N (a0a : Option Addr) (a0n a0c : Nat) (a1a : Option Addr) (a1n a1c : Nat) (w : World) : (Instr.buildSlice 174 2 #[(0, (Value.slice a0a a0n a0c)), (1, (Value.slice a1a a1n a1c))]).run Tryd.prog w = .ok (.slice (some ⟨w.heap.size, 0, none⟩) 2 2) (w.alloc (.cells [(Value.slice a0a a0n a0c), (Value.slice a1a a1n a1c)].toArray 124)) := by kernel_rfl
theorem a9s (a : Option Addr) (n c : Nat) : Pu Tryd.prog (xBuiltin .len #[41] 3 [false] [.slice a n c]) (.int .i64 (n : Int)) := U8 Tryd.underlying41 a n c
theorem b1d {a : Option Addr} {g o : Nat} (ha : a = some ⟨g, o, none⟩) (len cap : Nat) (k : IntKind) (i : Int) (h0 : 0 ≤ i) (h1 : i < len) : Pu Tryd.prog (xV (Instr.indexAt 41 (.slice a len cap) (.int k i))) (.pointer (some ⟨g, o + i.toNat * 2, none⟩)) := a0g Tryd.underlying41 Tryd.sizeOf58 ha len cap k i h0 h1
theorem c6T  : Pu Tryd.prog (xV (Instr.build 106 #[])) (.agg #[(Value.int .i64 0), (Value.int .i64 0), (Value.int .i64 0), (Value.bool false), (Value.bool false), (Value.slice none 0 0)]) := Pu.ok fun w => by kernel_rfl
abbrev C1 (x : ByteArray) : List Value := [(Value.string x)]
theorem b5C (x : ByteArray) : (C1 x).length = 1 := rfl
theorem b5D (x : ByteArray) : (C1 x).all (·.oneCell') = true := rfl
theorem a7h (a : Option Addr) (n c : Nat) : Pu Tryd.prog (xBuiltin .len #[124] 3 [false] [.slice a n c]) (.int .i64 (n : Int)) := U8 Tryd.underlying124 a n c
theorem d0p {a : Option Addr} {g o : Nat} (ha : a = some ⟨g, o, none⟩) (len cap : Nat) (k : IntKind) (i : Int) (h0 : 0 ≤ i) (h1 : i < len) : Pu Tryd.prog (xV (Instr.indexAt 124 (.slice a len cap) (.int k i))) (.pointer (some ⟨g, o + i.toNat * 1, none⟩)) := a0g Tryd.underlying124 Tryd.sizeOf152 ha len cap k i h0 h1
theorem a9N {g o : Nat} : Pu Tryd.prog (xV (Instr.fieldAt 106 (.pointer (some ⟨g, o, none⟩)) 3)) (.pointer (some ⟨g, o + 3, none⟩)) := Pu.ok fun w => by kernel_rfl
theorem a9O {g o : Nat} : Pu Tryd.prog (xV (Instr.fieldAt 106 (.pointer (some ⟨g, o, none⟩)) 4)) (.pointer (some ⟨g, o + 4, none⟩)) := Pu.ok fun w => by kernel_rfl
theorem a9P {g o : Nat} : Pu Tryd.prog (xV (Instr.fieldAt 106 (.pointer (some ⟨g, o, none⟩)) 5)) (.pointer (some ⟨g, o + 5, none⟩)) := Pu.ok fun w => by kernel_rfl
theorem d3m (a0 : ByteArray) (w : World) : (Instr.buildSlice 104 1 #[(0, (Value.string a0))]).run Tryd.prog w = .ok (.slice (some ⟨w.heap.size, 0, none⟩) 1 1) (w.alloc (.cells [(Value.string a0)].toArray 9)) := by kernel_rfl
theorem f9E : Tryd.prog.info? 9 = some ((Tryd.prog.info? 9).getD default) := by kernel_rfl
theorem d9Q {E : Pan} {w0 w : World} {ps : Nat → Prop} {H0 H : Hp} {Fs : List Frag} {K : Value → World → Prop} {s : Sl} {xs : List ByteArray} {F : Frag} {t2 : Sl} {ys : List ByteArray} {ks : List Bool} {ty : TypeId} (I : Inv w0 ps H0 H (F :: Fs) w) (hr : RowL 9 1 C1 s xs F) (hs : SrcO w C1 t2 ys) (hb : (xs.length + ys.length) * 17 ≤ 140737488355328) (h : ∀ (s' : Sl) (F' : Frag) (w' : World), RowL 9 1 C1 s' (xs ++ ys) F' → Inv w0 ps H0 H (F' :: Fs) w' → (∀ k, k < w.heap.size → (∀ p ∈ F, p.1 ≠ k) → w'.heap[k]? = w.heap[k]?) → K (.slice s'.a s'.n s'.c) w') : opK Tryd.prog E (xBuiltin .append #[104, 104] ty ks [.slice s.a s.n s.c, .slice t2.a t2.n t2.c]) w K :=
  b4t (bytes := 16) Tryd.underlying104 f9E (z := (Value.string ⟨#[]⟩)) (by kernel_rfl) (by kernel_rfl) (by kernel_rfl) (by kernel_rfl) I hr hs hb h
theorem a3f : Pu Tryd.prog (xV (Instr.build 171 #[(0, (Value.func (.func 123) #[] #[])), (1, (Value.func (.func 124) #[] #[])), (2, (Value.func (.func 125) #[] #[])), (3, (Value.func (.func 126) #[] #[])), (4, (Value.func (.func 127) #[] #[])), (5, (Value.func (.func 128) #[] #[])), (6, (Value.func (.func 129) #[] #[]))])) (.agg #[(Value.func (.func 123) #[] #[]), (Value.func (.func 124) #[] #[]), (Value.func (.func 125) #[] #[]), (Value.func (.func 126) #[] #[]), (Value.func (.func 127) #[] #[]), (Value.func (.func 128) #[] #[]), (Value.func (.func 129) #[] #[])]) := Pu.ok fun w => by kernel_rfl
theorem R3 (k : IntKind) (i : Int) (h0 : 0 ≤ i) (h1 : i < 7) : Pu Tryd.prog (xV (Instr.index 171 (.agg #[(Value.func (.func 123) #[] #[]), (Value.func (.func 124) #[] #[]), (Value.func (.func 125) #[] #[]), (Value.func (.func 126) #[] #[]), (Value.func (.func 127) #[] #[]), (Value.func (.func 128) #[] #[]), (Value.func (.func 129) #[] #[])]) (.int k i))) (([(Value.func (.func 123) #[] #[]), (Value.func (.func 124) #[] #[]), (Value.func (.func 125) #[] #[]), (Value.func (.func 126) #[] #[]), (Value.func (.func 127) #[] #[]), (Value.func (.func 128) #[] #[]), (Value.func (.func 129) #[] #[])] : List Value).getD i.toNat undef) := by
  obtain rfl | rfl | rfl | rfl | rfl | rfl | rfl := (by omega : i = 0 ∨ i = 1 ∨ i = 2 ∨ i = 3 ∨ i = 4 ∨ i = 5 ∨ i = 6)
  · exact Pu.ok fun w => by kernel_rfl
  · exact Pu.ok fun w => by kernel_rfl
  · exact Pu.ok fun w => by kernel_rfl
  · exact Pu.ok fun w => by kernel_rfl
  · exact Pu.ok fun w => by kernel_rfl
  · exact Pu.ok fun w => by kernel_rfl
  · exact Pu.ok fun w => by kernel_rfl
theorem a7i {g o : Nat} : Pu Tryd.prog (xV (Instr.fieldAt 90 (.pointer (some ⟨g, o, none⟩)) 4)) (.pointer (some ⟨g, o + 4, none⟩)) := Pu.ok fun w => by kernel_rfl
theorem b1e {g o : Nat} : Pu Tryd.prog (xV (Instr.fieldAt 90 (.pointer (some ⟨g, o, none⟩)) 0)) (.pointer (some ⟨g, o + 0, none⟩)) := Pu.ok fun w => by kernel_rfl
theorem c0U (a0 : Int) (a1 : Int) : Pu Tryd.prog (xV (Instr.build 93 #[(0, (Value.int .i64 a0)), (1, (Value.int .i64 a1))])) (.agg #[(Value.int .i64 a0), (Value.int .i64 a1)]) := Pu.ok fun w => by kernel_rfl
theorem b1f {g o : Nat} : Pu Tryd.prog (xV (Instr.fieldAt 90 (.pointer (some ⟨g, o, none⟩)) 1)) (.pointer (some ⟨g, o + 1, none⟩)) := Pu.ok fun w => by kernel_rfl
theorem b7k (a : Option Addr) (n c : Nat) : Pu Tryd.prog (xBuiltin .len #[174] 3 [false] [.slice a n c]) (.int .i64 (n : Int)) := U8 Tryd.underlying174 a n c
theorem c0x {a : Option Addr} {g o : Nat} (ha : a = some ⟨g, o, none⟩) (len cap : Nat) (k : IntKind) (i : Int) (h0 : 0 ≤ i) (h1 : i < len) : Pu Tryd.prog (xV (Instr.indexAt 174 (.slice a len cap) (.int k i))) (.pointer (some ⟨g, o + i.toNat * 1, none⟩)) := a0g Tryd.underlying174 Tryd.sizeOf124 ha len cap k i h0 h1
theorem d0q (s : ByteArray) : Pu Tryd.prog (xV (Instr.makeInterface 9 (.string s))) (.iface 9 (.string s)) := Pu.ok fun w => by kernel_rfl
theorem c5V : Tryd.prog.info? 152 = some ((Tryd.prog.info? 152).getD default) := by kernel_rfl
theorem b0n {E : Pan} {w0 w : World} {ps : Nat → Prop} {H0 H : Hp} {Fs : List Frag} {K : Value → World → Prop} {s : Sl} {xs : List a8} {F : Frag} {t2 : Sl} {ys : List a8} {ks : List Bool} {ty : TypeId} (I : Inv w0 ps H0 H (F :: Fs) w) (hr : RowL 152 1 o2 s xs F) (hs : SrcO w o2 t2 ys) (hb : (xs.length + ys.length) * 17 ≤ 140737488355328) (h : ∀ (s' : Sl) (F' : Frag) (w' : World), RowL 152 1 o2 s' (xs ++ ys) F' → Inv w0 ps H0 H (F' :: Fs) w' → (∀ k, k < w.heap.size → (∀ p ∈ F, p.1 ≠ k) → w'.heap[k]? = w.heap[k]?) → K (.slice s'.a s'.n s'.c) w') : opK Tryd.prog E (xBuiltin .append #[124, 124] ty ks [.slice s.a s.n s.c, .slice t2.a t2.n t2.c]) w K :=
  b4t (bytes := 16) Tryd.underlying124 c5V (z := Value.nilIface) (by kernel_rfl) (by kernel_rfl) (by kernel_rfl) (by kernel_rfl) I hr hs hb h
theorem c1O (S8 : ByteArray) (S9 : Int) : Pu Tryd.prog (xV (Instr.build 177 #[(0, (Value.agg #[(Value.string S8), (Value.int .i64 S9)]))])) (.agg #[(Value.string S8), (Value.int .i64 S9)]) := Pu.ok fun w => by kernel_rfl
theorem b8V (x : N3) : Pu Tryd.prog (xV (Instr.makeInterface 177 (.agg #[(Value.string x.N4.d5), (Value.int .i64 x.N4.E4)]))) (t8 (a8.E8 x)) := Pu.ok fun w => rfl
theorem c1P (S8 : Int) (S9 : ByteArray) (a0_2a : Option Addr) (a0_2n a0_2c : Nat) (a0_3a : Option Addr) (a0_3n a0_3c : Nat) (a0_4a : Option Addr) (a0_4n a0_4c : Nat) (a0_5a : Option Addr) (a0_5n a0_5c : Nat) : Pu Tryd.prog (xV (Instr.build 179 #[(0, (Value.agg #[(Value.int .i64 S8), (Value.string S9), (Value.slice a0_2a a0_2n a0_2c), (Value.slice a0_3a a0_3n a0_3c), (Value.slice a0_4a a0_4n a0_4c), (Value.slice a0_5a a0_5n a0_5c)]))])) (.agg #[(Value.int .i64 S8), (Value.string S9), (Value.slice a0_2a a0_2n a0_2c), (Value.slice a0_3a a0_3n a0_3c), (Value.slice a0_4a a0_4n a0_4c), (Value.slice a0_5a a0_5n a0_5c)]) := Pu.ok fun w => by kernel_rfl
theorem b8W (x : K8) : Pu Tryd.prog (xV (Instr.makeInterface 179 (.agg #[(Value.int .i64 x.d7.b9), (Value.string x.d7.d5), (Value.slice x.d7.i8.a x.d7.i8.n x.d7.i8.c), (Value.slice x.d7.q9.a x.d7.q9.n x.d7.q9.c), (Value.slice x.d7.G9.a x.d7.G9.n x.d7.G9.c), (Value.slice x.d7.G3.a x.d7.G3.n x.d7.G3.c)]))) (t8 (a8.C9 x)) := Pu.ok fun w => rfl
theorem a2y {g o : Nat} : Pu Tryd.prog (xV (Instr.fieldAt 58 (.pointer (some ⟨g, o, none⟩)) 1)) (.pointer (some ⟨g, o + 1, none⟩)) := Pu.ok fun w => by kernel_rfl
theorem c0V (x : a8) : Pu Tryd.prog (xV (Instr.typeAssert (t8 x) 152 177 true)) (.tuple #[(Value.agg #[(Value.string ((((x.R5)).N4).d5)), (Value.int .i64 ((((x.R5)).N4).E4))]), .bool (x.a3F)]) := by
  cases x <;> exact Pu.ok fun w => by kernel_rfl
theorem a9Q {g o : Nat} : Pu Tryd.prog (xV (Instr.fieldAt 177 (.pointer (some ⟨g, o, none⟩)) 0)) (.pointer (some ⟨g, o + 0, none⟩)) := Pu.ok fun w => by kernel_rfl
theorem a0i {g o : Nat} : Pu Tryd.prog (xV (Instr.fieldAt 58 (.pointer (some ⟨g, o, none⟩)) 0)) (.pointer (some ⟨g, o + 0, none⟩)) := Pu.ok fun w => by kernel_rfl
theorem c0W (x : a8) : Pu Tryd.prog (xV (Instr.typeAssert (t8 x) 152 179 true)) (.tuple #[(Value.agg #[(Value.int .i64 ((((x.i5)).d7).b9)), (Value.string ((((x.i5)).d7).d5)), (Value.slice ((((x.i5)).d7).i8).a ((((x.i5)).d7).i8).n ((((x.i5)).d7).i8).c), (Value.slice ((((x.i5)).d7).q9).a ((((x.i5)).d7).q9).n ((((x.i5)).d7).q9).c), (Value.slice ((((x.i5)).d7).G9).a ((((x.i5)).d7).G9).n ((((x.i5)).d7).G9).c), (Value.slice ((((x.i5)).d7).G3).a ((((x.i5)).d7).G3).n ((((x.i5)).d7).G3).c)]), .bool (x.a3G)]) := by
  cases x <;> exact Pu.ok fun w => by kernel_rfl
theorem J8 {g o : Nat} : Pu Tryd.prog (xV (Instr.fieldAt 179 (.pointer (some ⟨g, o, none⟩)) 0)) (.pointer (some ⟨g, o + 0, none⟩)) := Pu.ok fun w => by kernel_rfl
theorem c0X (x : a8) : Pu Tryd.prog (xV (Instr.typeAssert (t8 x) 152 123 true)) (.tuple #[(Value.agg #[(Value.int .i64 ((((x.p5)).l0).b9)), (Value.int .i64 ((((x.p5)).l0).I0)), (Value.string ((((x.p5)).l0).d5)), (Value.slice ((((x.p5)).l0).y9).a ((((x.p5)).l0).y9).n ((((x.p5)).l0).y9).c)]), .bool (x.a3E)]) := by
  cases x <;> exact Pu.ok fun w => by kernel_rfl
theorem U7 {g o : Nat} : Pu Tryd.prog (xV (Instr.fieldAt 123 (.pointer (some ⟨g, o, none⟩)) 0)) (.pointer (some ⟨g, o + 0, none⟩)) := Pu.ok fun w => by kernel_rfl
theorem c5W (a0 : Int) (w : World) : (Instr.buildSlice 45 1 #[(0, (Value.int .i64 a0))]).run Tryd.prog w = .ok (.slice (some ⟨w.heap.size, 0, none⟩) 1 1) (w.alloc (.cells [(Value.int .i64 a0)].toArray 2)) := by kernel_rfl
theorem a7j {g o : Nat} : Pu Tryd.prog (xV (Instr.fieldAt 90 (.pointer (some ⟨g, o, none⟩)) 2)) (.pointer (some ⟨g, o + 2, none⟩)) := Pu.ok fun w => by kernel_rfl
theorem a5s {g o : Nat} : Pu Tryd.prog (xV (Instr.fieldAt 90 (.pointer (some ⟨g, o, none⟩)) 3)) (.pointer (some ⟨g, o + 3, none⟩)) := Pu.ok fun w => by kernel_rfl
theorem c0Y (a0 : Bool) (a1 : Int) : Pu Tryd.prog (xV (Instr.build 55 #[(0, (Value.bool a0)), (1, (Value.int .i64 a1))])) (.agg #[(Value.bool a0), (Value.int .i64 a1), (Value.bool false)]) := Pu.ok fun w => by kernel_rfl
abbrev T0 (x : a1A) : List Value := [(Value.bool x.e5F), (Value.int .i64 x.I0), (Value.bool x.f9D)]
theorem a5S (x : a1A) : (T0 x).length = 3 := rfl
theorem a5T (x : a1A) : (T0 x).all (·.oneCell') = true := rfl
theorem c5X (S8 : Bool) (S9 : Int) (a7M : Bool) (w : World) : (Instr.buildSlice 46 1 #[(0, (Value.agg #[(Value.bool S8), (Value.int .i64 S9), (Value.bool a7M)]))]).run Tryd.prog w = .ok (.slice (some ⟨w.heap.size, 0, none⟩) 1 1) (w.alloc (.cells [(Value.bool S8), (Value.int .i64 S9), (Value.bool a7M)].toArray 55)) := by kernel_rfl
theorem e5H : Tryd.prog.info? 55 = some ((Tryd.prog.info? 55).getD default) := by kernel_rfl
theorem d0r {E : Pan} {w0 w : World} {ps : Nat → Prop} {H0 H : Hp} {Fs : List Frag} {K : Value → World → Prop} {s : Sl} {xs : List a1A} {F : Frag} {t2 : Sl} {ys : List a1A} {ks : List Bool} {ty : TypeId} (I : Inv w0 ps H0 H (F :: Fs) w) (hr : RowL 55 3 T0 s xs F) (hs : SrcO w T0 t2 ys) (hb : (xs.length + ys.length) * 25 ≤ 140737488355328) (h : ∀ (s' : Sl) (F' : Frag) (w' : World), RowL 55 3 T0 s' (xs ++ ys) F' → Inv w0 ps H0 H (F' :: Fs) w' → (∀ k, k < w.heap.size → (∀ p ∈ F, p.1 ≠ k) → w'.heap[k]? = w.heap[k]?) → K (.slice s'.a s'.n s'.c) w') : opK Tryd.prog E (xBuiltin .append #[46, 46] ty ks [.slice s.a s.n s.c, .slice t2.a t2.n t2.c]) w K :=
  b4t (bytes := 24) Tryd.underlying46 e5H (z := (Value.agg #[(Value.bool false), (Value.int .i64 0), (Value.bool false)])) (by kernel_rfl) (by kernel_rfl) (by kernel_rfl) (by kernel_rfl) I hr hs hb h
theorem b1g {g o : Nat} : Pu Tryd.prog (xV (Instr.fieldAt 90 (.pointer (some ⟨g, o, none⟩)) 5)) (.pointer (some ⟨g, o + 5, none⟩)) := Pu.ok fun w => by kernel_rfl
theorem d0s {a : Option Addr} {g o : Nat} (ha : a = some ⟨g, o, none⟩) (len cap : Nat) (k : IntKind) (i : Int) (h0 : 0 ≤ i) (h1 : i < len) : Pu Tryd.prog (xV (Instr.indexAt 104 (.slice a len cap) (.int k i))) (.pointer (some ⟨g, o + i.toNat * 1, none⟩)) := a0g Tryd.underlying104 Tryd.sizeOf9 ha len cap k i h0 h1
theorem a0j {g o : Nat} : Pu Tryd.prog (xV (Instr.fieldAt 138 (.pointer (some ⟨g, o, none⟩)) 0)) (.pointer (some ⟨g, o + 0, none⟩)) := Pu.ok fun w => by kernel_rfl
theorem a3L (a0 : Int) (a1 : Int) : Pu Tryd.prog (xV (Instr.build 223 #[(0, (Value.int .i64 a0)), (1, (Value.int .i64 a1))])) (.agg #[(Value.int .i64 a0), (Value.int .i64 a1)]) := Pu.ok fun w => by kernel_rfl
theorem d9R (d : Nat) (a0 b0 : Int) (a1 b1 : Int) (w : World) : (Op.equalIn (d + 2) 223 (.agg #[(Value.int .i64 a0), (Value.int .i64 a1)]) (.agg #[(Value.int .i64 b0), (Value.int .i64 b1)])).run Tryd.prog w = .ok (decide (a0 = b0 ∧ a1 = b1)) w := by
  have u3 := Tryd.underlying3
  have i3 := Tryd.isAgg3
  have s3 := Tryd.sizeOf3
  have hS : Tryd.prog.underlying 223 = some (.struct (Tryd.prog.fieldsOf 223)) := by kernel_rfl
  rw [run_equalIn_agg w (d + 1) 223 _ _ hS (by kernel_rfl)]
  simp only [Program.fieldsOf, Tryd.underlying223]
  go_simp
  try simp only [c1D]
  by_cases h0 : a0 = b0
  · by_cases h1 : a1 = b1
    · simp [h0, h1]
    · simp [h0, h1]
  · simp [h0]
theorem a9t (x y : Operand) (a0 b0 : Int) (a1 b1 : Int) : Pu Tryd.prog (xBin .eql 223 x y (.agg #[(Value.int .i64 a0), (Value.int .i64 a1)]) (.agg #[(Value.int .i64 b0), (Value.int .i64 b1)])) (.bool (decide (a0 = b0 ∧ a1 = b1))) := by
  refine Pu.ok (s := do eqGuard .eql 223 x y (.agg #[(Value.int .i64 a0), (Value.int .i64 a1)]) (.agg #[(Value.int .i64 b0), (Value.int .i64 b1)]); binOp .eql 223 (.agg #[(Value.int .i64 a0), (Value.int .i64 a1)]) (.agg #[(Value.int .i64 b0), (Value.int .i64 b1)])) fun w => ?_
  rw [Sem.run_bind, run_eqGuard_agg w _ _ _ _ _ _ (by kernel_rfl), Result.andThen_ok, run_eql_struct, show (10000 : Nat) = 9998 + 2 from rfl, d9R]
  rfl
theorem c6U  : Pu Tryd.prog (xV (Instr.build 223 #[])) (.agg #[(Value.int .i64 0), (Value.int .i64 0)]) := Pu.ok fun w => by kernel_rfl
theorem a1b (a0 : Int) (a1 : Int) : Pu Tryd.prog (xV (Instr.build 227 #[(0, (Value.int .i64 a0)), (1, (Value.int .i64 a1))])) (.agg #[(Value.int .i64 a0), (Value.int .i64 a1)]) := Pu.ok fun w => by kernel_rfl
theorem d9S (d : Nat) (a0 b0 : Int) (a1 b1 : Int) (w : World) : (Op.equalIn (d + 2) 227 (.agg #[(Value.int .i64 a0), (Value.int .i64 a1)]) (.agg #[(Value.int .i64 b0), (Value.int .i64 b1)])).run Tryd.prog w = .ok (decide (a0 = b0 ∧ a1 = b1)) w := by
  have u3 := Tryd.underlying3
  have i3 := Tryd.isAgg3
  have s3 := Tryd.sizeOf3
  have hS : Tryd.prog.underlying 227 = some (.struct (Tryd.prog.fieldsOf 227)) := by kernel_rfl
  rw [run_equalIn_agg w (d + 1) 227 _ _ hS (by kernel_rfl)]
  simp only [Program.fieldsOf, Tryd.underlying227]
  go_simp
  try simp only [c1D]
  by_cases h0 : a0 = b0
  · by_cases h1 : a1 = b1
    · simp [h0, h1]
    · simp [h0, h1]
  · simp [h0]
theorem a5d (x y : Operand) (a0 b0 : Int) (a1 b1 : Int) : Pu Tryd.prog (xBin .eql 227 x y (.agg #[(Value.int .i64 a0), (Value.int .i64 a1)]) (.agg #[(Value.int .i64 b0), (Value.int .i64 b1)])) (.bool (decide (a0 = b0 ∧ a1 = b1))) := by
  refine Pu.ok (s := do eqGuard .eql 227 x y (.agg #[(Value.int .i64 a0), (Value.int .i64 a1)]) (.agg #[(Value.int .i64 b0), (Value.int .i64 b1)]); binOp .eql 227 (.agg #[(Value.int .i64 a0), (Value.int .i64 a1)]) (.agg #[(Value.int .i64 b0), (Value.int .i64 b1)])) fun w => ?_
  rw [Sem.run_bind, run_eqGuard_agg w _ _ _ _ _ _ (by kernel_rfl), Result.andThen_ok, run_eql_struct, show (10000 : Nat) = 9998 + 2 from rfl, d9S]
  rfl
theorem c6V  : Pu Tryd.prog (xV (Instr.build 227 #[])) (.agg #[(Value.int .i64 0), (Value.int .i64 0)]) := Pu.ok fun w => by kernel_rfl
theorem d3n (a0a : Option Addr) (a0n a0c : Nat) (a1a : Option Addr) (a1n a1c : Nat) (a2a : Option Addr) (a2n a2c : Nat) (a3a : Option Addr) (a3n a3c : Nat) (w : World) : (Instr.buildSlice 174 4 #[(0, (Value.slice a0a a0n a0c)), (1, (Value.slice a1a a1n a1c)), (2, (Value.slice a2a a2n a2c)), (3, (Value.slice a3a a3n a3c))]).run Tryd.prog w = .ok (.slice (some ⟨w.heap.size, 0, none⟩) 4 4) (w.alloc (.cells [(Value.slice a0a a0n a0c), (Value.slice a1a a1n a1c), (Value.slice a2a a2n a2c), (Value.slice a3a a3n a3c)].toArray 124)) := by kernel_rfl
abbrev u6 (x : q8) : List Value := [(Value.slice x.a2j.a x.a2j.n x.a2j.c), (Value.slice x.a3D.a x.a3D.n x.a3D.c)]
abbrev p6 (x : K6) : List Value := [(Value.int .i64 x.P7), (Value.int .i64 x.a5l), (Value.int .i64 x.Y1), (Value.slice x.b0k.a x.b0k.n x.b0k.c), (Value.slice x.V2.a x.V2.n x.V2.c), (Value.slice x.R4.a x.R4.n x.R4.c)]
abbrev a3M (x : g7) : List Value := [(Value.int .i64 x.fnodes), (Value.int .i64 x.fdepth), (Value.int .i64 x.fe), (Value.bool x.fform), (Value.bool x.fnamed), (Value.slice x.fnames.a x.fnames.n x.fnames.c)]
end Go.Proofs.YtnhkdkcgdcgmdaaDoor
