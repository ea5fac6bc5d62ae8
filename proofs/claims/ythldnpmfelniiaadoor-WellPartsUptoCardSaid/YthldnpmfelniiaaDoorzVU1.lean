/- Single operations at this program's types, and its structures; printed by lift.py. -/
import Derived.Test.YthldnpmfelniiaaDoorProg
import Derived.Test.YthldnpmfelniiaaDoorzVS5
import Derived.KernelRfl
import Derived.Laws.StructEq
import Derived.Laws.Tables
import Derived.Laws.Cover2
namespace Go.Proofs.YthldnpmfelniiaaDoor
open Go.RowKit
set_option maxRecDepth 100000
set_option maxHeartbeats 2000000
structure i6 where
  L8 : Sl
  L1 : Sl
structure q7 where
  d5 : Int
  X3 : Int
  c6 : ByteArray
  y8 : Sl
structure r6 where
  d5 : Int
  fOp : Int
  c5 : Sl
  o5 : Sl
structure f7 where
  c6 : ByteArray
  L9 : Int
structure b0b where
  c6 : ByteArray
  d6O : Bool
structure y9 where
  f5 : q7
structure b7 where
  fnodes : Int
  fdepth : Int
  fe : Int
  fform : Bool
  fnamed : Bool
  fnames : Sl
structure a8S where
  fn : Int
  fdepth : Int
  fbad : Int
structure a8T where
  fok : Bool
  fnames : Bool
structure B9 where
  d7 : r6
structure q8 where
  d5 : Int
  c6 : ByteArray
  c5 : Sl
  h7 : Sl
  C0 : Sl
  A8 : Sl
structure e1P where
  f0 : Int
  f1 : Int
  f2 : Int
  f3 : Int
structure b6 where
  fl : Sl
structure b4 where
  fname : ByteArray
  fas : Int
structure E3 where
  D3 : f7
structure C1 where
  b3 : q8
structure v8 where
  fexprs : Int
  fparts : Int
structure m2 where
  fexprs : Int
  fconds : Int
inductive a8 where
  | nil
  | u1 (x : y9)
  | B0 (x : B9)
  | A4 (x : E3)
  | u6 (x : C1)
def m3 : a8 → Value
  | .nil => .nilIface
  | .u1 x => .iface 96 (.agg #[(Value.int .i64 x.f5.d5), (Value.int .i64 x.f5.X3), (Value.string x.f5.c6), (Value.slice x.f5.y8.a x.f5.y8.n x.f5.y8.c)])
  | .B0 x => .iface 106 (.agg #[(Value.int .i64 x.d7.d5), (Value.int .i64 x.d7.fOp), (Value.slice x.d7.c5.a x.d7.c5.n x.d7.c5.c), (Value.slice x.d7.o5.a x.d7.o5.n x.d7.o5.c)])
  | .A4 x => .iface 175 (.agg #[(Value.string x.D3.c6), (Value.int .i64 x.D3.L9)])
  | .u6 x => .iface 177 (.agg #[(Value.int .i64 x.b3.d5), (Value.string x.b3.c6), (Value.slice x.b3.c5.a x.b3.c5.n x.b3.c5.c), (Value.slice x.b3.h7.a x.b3.h7.n x.b3.h7.c), (Value.slice x.b3.C0.a x.b3.C0.n x.b3.C0.c), (Value.slice x.b3.A8.a x.b3.A8.n x.b3.A8.c)])
theorem b2z (x : a8) : [m3 x].all (·.oneCell') = true := by cases x <;> rfl
def a8.i4 : a8 → y9
  | .u1 x => x
  | _ => (y9.mk (q7.mk 0 0 ⟨#[]⟩ (Sl.mk none 0 0)))
def a8.a2w : a8 → Bool
  | .u1 _ => true
  | _ => false
def a8.J3 : a8 → E3
  | .A4 x => x
  | _ => (E3.mk (f7.mk ⟨#[]⟩ 0))
def a8.a2x : a8 → Bool
  | .A4 _ => true
  | _ => false
def a8.b8 : a8 → C1
  | .u6 x => x
  | _ => (C1.mk (q8.mk 0 ⟨#[]⟩ (Sl.mk none 0 0) (Sl.mk none 0 0) (Sl.mk none 0 0) (Sl.mk none 0 0)))
def a8.a2y : a8 → Bool
  | .u6 _ => true
  | _ => false
theorem b8R (a : Option Addr) (n c : Nat) : Pu Tryd.prog (xBuiltin .len #[47] 3 [false] [.slice a n c]) (.int .i64 (n : Int)) := Q8 Tryd.underlying47 a n c
theorem a1Z {g o : Nat} : Pu Tryd.prog (xV (Instr.fieldAt 25 (.pointer (some ⟨g, o, none⟩)) 0)) (.pointer (some ⟨g, o + 0, none⟩)) := Pu.ok fun w => by kernel_rfl
theorem a3h (a : Option Addr) (n c : Nat) : Pu Tryd.prog (xBuiltin .len #[22] 3 [false] [.slice a n c]) (.int .i64 (n : Int)) := Q8 Tryd.underlying22 a n c
theorem a2z {a : Option Addr} {g o : Nat} (ha : a = some ⟨g, o, none⟩) (len cap : Nat) (k : IntKind) (i : Int) (h0 : 0 ≤ i) (h1 : i < len) : Pu Tryd.prog (xV (Instr.indexAt 22 (.slice a len cap) (.int k i))) (.pointer (some ⟨g, o + i.toNat * 2, none⟩)) := V2 Tryd.underlying22 Tryd.sizeOf67 ha len cap k i h0 h1
theorem Y1 {g o : Nat} : Pu Tryd.prog (xV (Instr.fieldAt 67 (.pointer (some ⟨g, o, none⟩)) 0)) (.pointer (some ⟨g, o + 0, none⟩)) := Pu.ok fun w => by kernel_rfl
theorem a0R {g o : Nat} : Pu Tryd.prog (xV (Instr.fieldAt 25 (.pointer (some ⟨g, o, none⟩)) 1)) (.pointer (some ⟨g, o + 1, none⟩)) := Pu.ok fun w => by kernel_rfl
abbrev c7 (x : f7) : List Value := [(Value.string x.c6), (Value.int .i64 x.L9)]
theorem a1v (x : f7) : (c7 x).length = 2 := rfl
theorem a3q (x : f7) : (c7 x).all (·.oneCell') = true := rfl
theorem c7t : Tryd.prog.info? 67 = some ((Tryd.prog.info? 67).getD default) := by kernel_rfl
theorem c7u {E : Pan} {w0 w : World} {ps : Nat → Prop} {H0 H : Hp} {Fs : List Frag} {K : Value → World → Prop} {s : Sl} {xs : List f7} {F : Frag} {t2 : Sl} {ys : List f7} {ks : List Bool} {ty : TypeId} (I : Inv w0 ps H0 H (F :: Fs) w) (hr : RowL 67 2 c7 s xs F) (hs : SrcO w c7 t2 ys) (hb : (xs.length + ys.length) * 25 ≤ 140737488355328) (h : ∀ (s' : Sl) (F' : Frag) (w' : World), RowL 67 2 c7 s' (xs ++ ys) F' → Inv w0 ps H0 H (F' :: Fs) w' → (∀ k, k < w.heap.size → (∀ p ∈ F, p.1 ≠ k) → w'.heap[k]? = w.heap[k]?) → K (.slice s'.a s'.n s'.c) w') : opK Tryd.prog E (xBuiltin .append #[22, 22] ty ks [.slice s.a s.n s.c, .slice t2.a t2.n t2.c]) w K :=
  b2D (bytes := 24) Tryd.underlying22 c7t (z := (Value.agg #[(Value.string ⟨#[]⟩), (Value.int .i64 0)])) (by kernel_rfl) (by kernel_rfl) (by kernel_rfl) (by kernel_rfl) I hr hs hb h
theorem T2 (a : Option Addr) (n c : Nat) : Pu Tryd.prog (xBuiltin .len #[23] 3 [false] [.slice a n c]) (.int .i64 (n : Int)) := Q8 Tryd.underlying23 a n c
theorem b2A (a0a : Option Addr) (a0n a0c : Nat) (a1a : Option Addr) (a1n a1c : Nat) : Pu Tryd.prog (xV (Instr.build 25 #[(0, (Value.slice a0a a0n a0c)), (1, (Value.slice a1a a1n a1c))])) (.agg #[(Value.slice a0a a0n a0c), (Value.slice a1a a1n a1c)]) := Pu.ok fun w => by kernel_rfl
theorem b5t (a0w : Int) (a0x : Int) (c7v : ByteArray) (a0_3a : Option Addr) (a0_3n a0_3c : Nat) : Pu Tryd.prog (xV (Instr.build 96 #[(0, (Value.agg #[(Value.int .i64 a0w), (Value.int .i64 a0x), (Value.string c7v), (Value.slice a0_3a a0_3n a0_3c)]))])) (.agg #[(Value.int .i64 a0w), (Value.int .i64 a0x), (Value.string c7v), (Value.slice a0_3a a0_3n a0_3c)]) := Pu.ok fun w => by kernel_rfl
theorem a7c (x : y9) : Pu Tryd.prog (xV (Instr.makeInterface 96 (.agg #[(Value.int .i64 x.f5.d5), (Value.int .i64 x.f5.X3), (Value.string x.f5.c6), (Value.slice x.f5.y8.a x.f5.y8.n x.f5.y8.c)]))) (m3 (a8.u1 x)) := Pu.ok fun _w => rfl
abbrev h8 (x : a8) : List Value := [(m3 x)]
theorem D5 (x : a8) : (h8 x).length = 1 := rfl
theorem F8 (x : a8) : (h8 x).all (·.oneCell') = true := b2z x
theorem a8f (a0 : a8) (w : World) : (Instr.buildSlice 97 1 #[(0, (m3 a0))]).run Tryd.prog w = .ok (.slice (some ⟨w.heap.size, 0, none⟩) 1 1) (w.alloc (.cells [(m3 a0)].toArray 141)) := by cases a0 <;> kernel_rfl
theorem a2b {g o : Nat} : Pu Tryd.prog (xV (Instr.fieldAt 92 (.pointer (some ⟨g, o, none⟩)) 2)) (.pointer (some ⟨g, o + 2, none⟩)) := Pu.ok fun w => by kernel_rfl
theorem a5Y {g o : Nat} : Pu Tryd.prog (xV (Instr.fieldAt 30 (.pointer (some ⟨g, o, none⟩)) 3)) (.pointer (some ⟨g, o + 3, none⟩)) := Pu.ok fun w => by kernel_rfl
theorem a0y (a : Option Addr) (n c : Nat) : Pu Tryd.prog (xBuiltin .len #[28] 3 [false] [.slice a n c]) (.int .i64 (n : Int)) := Q8 Tryd.underlying28 a n c
theorem a5Z {a : Option Addr} {g o : Nat} (ha : a = some ⟨g, o, none⟩) (len cap : Nat) (k : IntKind) (i : Int) (h0 : 0 ≤ i) (h1 : i < len) : Pu Tryd.prog (xV (Instr.indexAt 28 (.slice a len cap) (.int k i))) (.pointer (some ⟨g, o + i.toNat * 4, none⟩)) := V2 Tryd.underlying28 Tryd.sizeOf30 ha len cap k i h0 h1
theorem Y2 {g o : Nat} : Pu Tryd.prog (xV (Instr.fieldAt 30 (.pointer (some ⟨g, o, none⟩)) 0)) (.pointer (some ⟨g, o + 0, none⟩)) := Pu.ok fun w => by kernel_rfl
theorem Y3 {g o : Nat} : Pu Tryd.prog (xV (Instr.fieldAt 30 (.pointer (some ⟨g, o, none⟩)) 2)) (.pointer (some ⟨g, o + 2, none⟩)) := Pu.ok fun w => by kernel_rfl
theorem a3F {g o : Nat} : Pu Tryd.prog (xV (Instr.fieldAt 30 (.pointer (some ⟨g, o, none⟩)) 1)) (.pointer (some ⟨g, o + 1, none⟩)) := Pu.ok fun w => by kernel_rfl
theorem b3l (a0w : Int) (a0x : Int) (a0_2a : Option Addr) (a0_2n a0_2c : Nat) (a0_3a : Option Addr) (a0_3n a0_3c : Nat) : Pu Tryd.prog (xV (Instr.build 106 #[(0, (Value.agg #[(Value.int .i64 a0w), (Value.int .i64 a0x), (Value.slice a0_2a a0_2n a0_2c), (Value.slice a0_3a a0_3n a0_3c)]))])) (.agg #[(Value.int .i64 a0w), (Value.int .i64 a0x), (Value.slice a0_2a a0_2n a0_2c), (Value.slice a0_3a a0_3n a0_3c)]) := Pu.ok fun w => by kernel_rfl
theorem b1c (x : B9) : Pu Tryd.prog (xV (Instr.makeInterface 106 (.agg #[(Value.int .i64 x.d7.d5), (Value.int .i64 x.d7.fOp), (Value.slice x.d7.c5.a x.d7.c5.n x.d7.c5.c), (Value.slice x.d7.o5.a x.d7.o5.n x.d7.o5.c)]))) (m3 (a8.B0 x)) := Pu.ok fun _w => rfl
theorem a6a {g o : Nat} : Pu Tryd.prog (xV (Instr.fieldAt 33 (.pointer (some ⟨g, o, none⟩)) 2)) (.pointer (some ⟨g, o + 2, none⟩)) := Pu.ok fun w => by kernel_rfl
theorem a6b {g o : Nat} : Pu Tryd.prog (xV (Instr.fieldAt 33 (.pointer (some ⟨g, o, none⟩)) 3)) (.pointer (some ⟨g, o + 3, none⟩)) := Pu.ok fun w => by kernel_rfl
theorem a3i (a : Option Addr) (n c : Nat) : Pu Tryd.prog (xBuiltin .len #[31] 3 [false] [.slice a n c]) (.int .i64 (n : Int)) := Q8 Tryd.underlying31 a n c
theorem a8U {a : Option Addr} {g o : Nat} (ha : a = some ⟨g, o, none⟩) (len cap : Nat) (k : IntKind) (i : Int) (h0 : 0 ≤ i) (h1 : i < len) : Pu Tryd.prog (xV (Instr.indexAt 31 (.slice a len cap) (.int k i))) (.pointer (some ⟨g, o + i.toNat * 4, none⟩)) := V2 Tryd.underlying31 Tryd.sizeOf33 ha len cap k i h0 h1
theorem b0c {g o : Nat} : Pu Tryd.prog (xV (Instr.fieldAt 33 (.pointer (some ⟨g, o, none⟩)) 0)) (.pointer (some ⟨g, o + 0, none⟩)) := Pu.ok fun w => by kernel_rfl
theorem a2d {g o : Nat} : Pu Tryd.prog (xV (Instr.fieldAt 33 (.pointer (some ⟨g, o, none⟩)) 1)) (.pointer (some ⟨g, o + 1, none⟩)) := Pu.ok fun w => by kernel_rfl
theorem a8J (a0 : ByteArray) : Pu Tryd.prog (xV (Instr.build 67 #[(0, (Value.string a0))])) (.agg #[(Value.string a0), (Value.int .i64 0)]) := Pu.ok fun w => by kernel_rfl
theorem b5u (a0a : Option Addr) (a0n a0c : Nat) : Pu Tryd.prog (xV (Instr.build 25 #[(0, (Value.slice a0a a0n a0c))])) (.agg #[(Value.slice a0a a0n a0c), (Value.slice none 0 0)]) := Pu.ok fun w => by kernel_rfl
theorem a0S {g o : Nat} : Pu Tryd.prog (xV (Instr.fieldAt 67 (.pointer (some ⟨g, o, none⟩)) 1)) (.pointer (some ⟨g, o + 1, none⟩)) := Pu.ok fun w => by kernel_rfl
theorem b3m {a : Option Addr} {g o : Nat} (ha : a = some ⟨g, o, none⟩) (len cap : Nat) (k : IntKind) (i : Int) (h0 : 0 ≤ i) (h1 : i < len) : Pu Tryd.prog (xV (Instr.indexAt 23 (.slice a len cap) (.int k i))) (.pointer (some ⟨g, o + i.toNat * 6, none⟩)) := V2 Tryd.underlying23 Tryd.sizeOf88 ha len cap k i h0 h1
theorem a0T {g o : Nat} : Pu Tryd.prog (xV (Instr.fieldAt 88 (.pointer (some ⟨g, o, none⟩)) 0)) (.pointer (some ⟨g, o + 0, none⟩)) := Pu.ok fun w => by kernel_rfl
theorem a0U {g o : Nat} : Pu Tryd.prog (xV (Instr.fieldAt 88 (.pointer (some ⟨g, o, none⟩)) 1)) (.pointer (some ⟨g, o + 1, none⟩)) := Pu.ok fun w => by kernel_rfl
theorem a6c {g o : Nat} : Pu Tryd.prog (xV (Instr.fieldAt 88 (.pointer (some ⟨g, o, none⟩)) 2)) (.pointer (some ⟨g, o + 2, none⟩)) := Pu.ok fun w => by kernel_rfl
theorem a6d {g o : Nat} : Pu Tryd.prog (xV (Instr.fieldAt 88 (.pointer (some ⟨g, o, none⟩)) 3)) (.pointer (some ⟨g, o + 3, none⟩)) := Pu.ok fun w => by kernel_rfl
theorem a6e {g o : Nat} : Pu Tryd.prog (xV (Instr.fieldAt 88 (.pointer (some ⟨g, o, none⟩)) 4)) (.pointer (some ⟨g, o + 4, none⟩)) := Pu.ok fun w => by kernel_rfl
theorem a0V {g o : Nat} : Pu Tryd.prog (xV (Instr.fieldAt 88 (.pointer (some ⟨g, o, none⟩)) 5)) (.pointer (some ⟨g, o + 5, none⟩)) := Pu.ok fun w => by kernel_rfl
theorem b0d {g o : Nat} : Pu Tryd.prog (xV (Instr.fieldAt 92 (.pointer (some ⟨g, o, none⟩)) 1)) (.pointer (some ⟨g, o + 1, none⟩)) := Pu.ok fun w => by kernel_rfl
theorem a6f {g o : Nat} : Pu Tryd.prog (xV (Instr.fieldAt 92 (.pointer (some ⟨g, o, none⟩)) 0)) (.pointer (some ⟨g, o + 0, none⟩)) := Pu.ok fun w => by kernel_rfl
theorem a6g {g o : Nat} : Pu Tryd.prog (xV (Instr.fieldAt 92 (.pointer (some ⟨g, o, none⟩)) 5)) (.pointer (some ⟨g, o + 5, none⟩)) := Pu.ok fun w => by kernel_rfl
theorem c1f {a : Option Addr} {g o : Nat} (ha : a = some ⟨g, o, none⟩) (len cap : Nat) (k : IntKind) (i : Int) (h0 : 0 ≤ i) (h1 : i < len) : Pu Tryd.prog (xV (Instr.indexAt 47 (.slice a len cap) (.int k i))) (.pointer (some ⟨g, o + i.toNat * 1, none⟩)) := V2 Tryd.underlying47 Tryd.sizeOf9 ha len cap k i h0 h1
abbrev o8 (x : ByteArray) : List Value := [(Value.string x)]
theorem a2X (x : ByteArray) : (o8 x).length = 1 := rfl
theorem a2Y (x : ByteArray) : (o8 x).all (·.oneCell') = true := rfl
theorem c4Q (a0w : ByteArray) (a0x : Int) (c7w : ByteArray) (c7x : Int) (w : World) : (Instr.buildSlice 22 2 #[(0, (Value.agg #[(Value.string a0w), (Value.int .i64 a0x)])), (1, (Value.agg #[(Value.string c7w), (Value.int .i64 c7x)]))]).run Tryd.prog w = .ok (.slice (some ⟨w.heap.size, 0, none⟩) 2 2) (w.alloc (.cells [(Value.string a0w), (Value.int .i64 a0x), (Value.string c7w), (Value.int .i64 c7x)].toArray 67)) := by kernel_rfl
theorem b6r  : Pu Tryd.prog (xV (Instr.build 126 #[])) (.agg #[(Value.slice none 0 0)]) := Pu.ok fun w => by kernel_rfl
abbrev i5 (x : b4) : List Value := [(Value.string x.fname), (Value.int .i64 x.fas)]
theorem a0h (x : b4) : (i5 x).length = 2 := rfl
theorem a0i (x : b4) : (i5 x).all (·.oneCell') = true := rfl
theorem Q5 {g o : Nat} : Pu Tryd.prog (xV (Instr.fieldAt 126 (.pointer (some ⟨g, o, none⟩)) 0)) (.pointer (some ⟨g, o + 0, none⟩)) := Pu.ok fun w => by kernel_rfl
theorem a0W (a0 : ByteArray) (a1 : Int) : Pu Tryd.prog (xV (Instr.build 128 #[(0, (Value.string a0)), (1, (Value.int .i64 a1))])) (.agg #[(Value.string a0), (Value.int .i64 a1)]) := Pu.ok fun w => by kernel_rfl
theorem a6h (a0w : ByteArray) (a0x : Int) (w : World) : (Instr.buildSlice 124 1 #[(0, (Value.agg #[(Value.string a0w), (Value.int .i64 a0x)]))]).run Tryd.prog w = .ok (.slice (some ⟨w.heap.size, 0, none⟩) 1 1) (w.alloc (.cells [(Value.string a0w), (Value.int .i64 a0x)].toArray 128)) := by kernel_rfl
theorem c4R : Tryd.prog.info? 128 = some ((Tryd.prog.info? 128).getD default) := by kernel_rfl
theorem a8g {E : Pan} {w0 w : World} {ps : Nat → Prop} {H0 H : Hp} {Fs : List Frag} {K : Value → World → Prop} {s : Sl} {xs : List b4} {F : Frag} {t2 : Sl} {ys : List b4} {ks : List Bool} {ty : TypeId} (I : Inv w0 ps H0 H (F :: Fs) w) (hr : RowL 128 2 i5 s xs F) (hs : SrcO w i5 t2 ys) (hb : (xs.length + ys.length) * 25 ≤ 140737488355328) (h : ∀ (s' : Sl) (F' : Frag) (w' : World), RowL 128 2 i5 s' (xs ++ ys) F' → Inv w0 ps H0 H (F' :: Fs) w' → (∀ k, k < w.heap.size → (∀ p ∈ F, p.1 ≠ k) → w'.heap[k]? = w.heap[k]?) → K (.slice s'.a s'.n s'.c) w') : opK Tryd.prog E (xBuiltin .append #[124, 124] ty ks [.slice s.a s.n s.c, .slice t2.a t2.n t2.c]) w K :=
  b2D (bytes := 24) Tryd.underlying124 c4R (z := (Value.agg #[(Value.string ⟨#[]⟩), (Value.int .i64 0)])) (by kernel_rfl) (by kernel_rfl) (by kernel_rfl) (by kernel_rfl) I hr hs hb h
theorem b8S {a : Option Addr} {g o : Nat} (ha : a = some ⟨g, o, none⟩) (len cap : Nat) (k : IntKind) (i : Int) (h0 : 0 ≤ i) (h1 : i < len) : Pu Tryd.prog (xV (Instr.indexAt 124 (.slice a len cap) (.int k i))) (.pointer (some ⟨g, o + i.toNat * 2, none⟩)) := V2 Tryd.underlying124 Tryd.sizeOf128 ha len cap k i h0 h1
theorem a5m {g o : Nat} : Pu Tryd.prog (xV (Instr.fieldAt 128 (.pointer (some ⟨g, o, none⟩)) 0)) (.pointer (some ⟨g, o + 0, none⟩)) := Pu.ok fun w => by kernel_rfl
theorem b5v {g o : Nat} : Pu Tryd.prog (xV (Instr.fieldAt 128 (.pointer (some ⟨g, o, none⟩)) 1)) (.pointer (some ⟨g, o + 1, none⟩)) := Pu.ok fun w => by kernel_rfl
theorem b5K (a0 : ByteArray) (w : World) : (Instr.buildSlice 47 1 #[(0, (Value.string a0))]).run Tryd.prog w = .ok (.slice (some ⟨w.heap.size, 0, none⟩) 1 1) (w.alloc (.cells [(Value.string a0)].toArray 9)) := by kernel_rfl
theorem d6P : Tryd.prog.info? 9 = some ((Tryd.prog.info? 9).getD default) := by kernel_rfl
theorem b8T {E : Pan} {w0 w : World} {ps : Nat → Prop} {H0 H : Hp} {Fs : List Frag} {K : Value → World → Prop} {s : Sl} {xs : List ByteArray} {F : Frag} {t2 : Sl} {ys : List ByteArray} {ks : List Bool} {ty : TypeId} (I : Inv w0 ps H0 H (F :: Fs) w) (hr : RowL 9 1 o8 s xs F) (hs : SrcO w o8 t2 ys) (hb : (xs.length + ys.length) * 17 ≤ 140737488355328) (h : ∀ (s' : Sl) (F' : Frag) (w' : World), RowL 9 1 o8 s' (xs ++ ys) F' → Inv w0 ps H0 H (F' :: Fs) w' → (∀ k, k < w.heap.size → (∀ p ∈ F, p.1 ≠ k) → w'.heap[k]? = w.heap[k]?) → K (.slice s'.a s'.n s'.c) w') : opK Tryd.prog E (xBuiltin .append #[47, 47] ty ks [.slice s.a s.n s.c, .slice t2.a t2.n t2.c]) w K :=
  b2D (bytes := 16) Tryd.underlying47 d6P (z := (Value.string ⟨#[]⟩)) (by kernel_rfl) (by kernel_rfl) (by kernel_rfl) (by kernel_rfl) I hr hs hb h
abbrev d4 (x : q7) : List Value := [(Value.int .i64 x.d5), (Value.int .i64 x.X3), (Value.string x.c6), (Value.slice x.y8.a x.y8.n x.y8.c)]
abbrev g8 (x : q8) : List Value := [(Value.int .i64 x.d5), (Value.string x.c6), (Value.slice x.c5.a x.c5.n x.c5.c), (Value.slice x.h7.a x.h7.n x.h7.c), (Value.slice x.C0.a x.C0.n x.C0.c), (Value.slice x.A8.a x.A8.n x.A8.c)]
theorem b8U  : Pu Tryd.prog (xV (Instr.build 92 #[])) (.agg #[(Value.int .i64 0), (Value.int .i64 0), (Value.int .i64 0), (Value.bool false), (Value.bool false), (Value.slice none 0 0)]) := Pu.ok fun w => by kernel_rfl
theorem a4W (a : Option Addr) (n c : Nat) : Pu Tryd.prog (xBuiltin .len #[97] 3 [false] [.slice a n c]) (.int .i64 (n : Int)) := Q8 Tryd.underlying97 a n c
theorem c1g {a : Option Addr} {g o : Nat} (ha : a = some ⟨g, o, none⟩) (len cap : Nat) (k : IntKind) (i : Int) (h0 : 0 ≤ i) (h1 : i < len) : Pu Tryd.prog (xV (Instr.indexAt 97 (.slice a len cap) (.int k i))) (.pointer (some ⟨g, o + i.toNat * 1, none⟩)) := V2 Tryd.underlying97 Tryd.sizeOf141 ha len cap k i h0 h1
theorem a6i {g o : Nat} : Pu Tryd.prog (xV (Instr.fieldAt 92 (.pointer (some ⟨g, o, none⟩)) 3)) (.pointer (some ⟨g, o + 3, none⟩)) := Pu.ok fun w => by kernel_rfl
theorem a6j {g o : Nat} : Pu Tryd.prog (xV (Instr.fieldAt 92 (.pointer (some ⟨g, o, none⟩)) 4)) (.pointer (some ⟨g, o + 4, none⟩)) := Pu.ok fun w => by kernel_rfl
theorem b3n (a0a : Option Addr) (a0n a0c : Nat) (a1a : Option Addr) (a1n a1c : Nat) (w : World) : (Instr.buildSlice 172 2 #[(0, (Value.slice a0a a0n a0c)), (1, (Value.slice a1a a1n a1c))]).run Tryd.prog w = .ok (.slice (some ⟨w.heap.size, 0, none⟩) 2 2) (w.alloc (.cells [(Value.slice a0a a0n a0c), (Value.slice a1a a1n a1c)].toArray 97)) := by kernel_rfl
theorem b5w (x y : Operand) (s : Sl) : Pu Tryd.prog (xBin .eql 22 x y (vs s) (.slice none 0 0)) (.bool s.a.isNone) := b8P _ _ _ s Tryd.underlying22
theorem c4S  (w : World) : (Instr.buildSlice 22 0 #[]).run Tryd.prog w = .ok (.slice (some ⟨w.heap.size, 0, none⟩) 0 0) (w.alloc (.cells [].toArray 67)) := by kernel_rfl
abbrev f6 (x : r6) : List Value := [(Value.int .i64 x.d5), (Value.int .i64 x.fOp), (Value.slice x.c5.a x.c5.n x.c5.c), (Value.slice x.o5.a x.o5.n x.o5.c)]
theorem b0e (a : Option Addr) (n c : Nat) : Pu Tryd.prog (xBuiltin .len #[172] 3 [false] [.slice a n c]) (.int .i64 (n : Int)) := Q8 Tryd.underlying172 a n c
theorem b2m {a : Option Addr} {g o : Nat} (ha : a = some ⟨g, o, none⟩) (len cap : Nat) (k : IntKind) (i : Int) (h0 : 0 ≤ i) (h1 : i < len) : Pu Tryd.prog (xV (Instr.indexAt 172 (.slice a len cap) (.int k i))) (.pointer (some ⟨g, o + i.toNat * 1, none⟩)) := V2 Tryd.underlying172 Tryd.sizeOf97 ha len cap k i h0 h1
theorem b8V (s : ByteArray) : Pu Tryd.prog (xV (Instr.makeInterface 9 (.string s))) (.iface 9 (.string s)) := Pu.ok fun w => by kernel_rfl
theorem b5L : Tryd.prog.info? 141 = some ((Tryd.prog.info? 141).getD default) := by kernel_rfl
theorem a7p {E : Pan} {w0 w : World} {ps : Nat → Prop} {H0 H : Hp} {Fs : List Frag} {K : Value → World → Prop} {s : Sl} {xs : List a8} {F : Frag} {t2 : Sl} {ys : List a8} {ks : List Bool} {ty : TypeId} (I : Inv w0 ps H0 H (F :: Fs) w) (hr : RowL 141 1 h8 s xs F) (hs : SrcO w h8 t2 ys) (hb : (xs.length + ys.length) * 17 ≤ 140737488355328) (h : ∀ (s' : Sl) (F' : Frag) (w' : World), RowL 141 1 h8 s' (xs ++ ys) F' → Inv w0 ps H0 H (F' :: Fs) w' → (∀ k, k < w.heap.size → (∀ p ∈ F, p.1 ≠ k) → w'.heap[k]? = w.heap[k]?) → K (.slice s'.a s'.n s'.c) w') : opK Tryd.prog E (xBuiltin .append #[97, 97] ty ks [.slice s.a s.n s.c, .slice t2.a t2.n t2.c]) w K :=
  b2D (bytes := 16) Tryd.underlying97 b5L (z := Value.nilIface) (by kernel_rfl) (by kernel_rfl) (by kernel_rfl) (by kernel_rfl) I hr hs hb h
theorem b3o (a0w : ByteArray) (a0x : Int) : Pu Tryd.prog (xV (Instr.build 175 #[(0, (Value.agg #[(Value.string a0w), (Value.int .i64 a0x)]))])) (.agg #[(Value.string a0w), (Value.int .i64 a0x)]) := Pu.ok fun w => by kernel_rfl
theorem b1d (x : E3) : Pu Tryd.prog (xV (Instr.makeInterface 175 (.agg #[(Value.string x.D3.c6), (Value.int .i64 x.D3.L9)]))) (m3 (a8.A4 x)) := Pu.ok fun _w => rfl
theorem b3p (a0w : Int) (a0x : ByteArray) (a0_2a : Option Addr) (a0_2n a0_2c : Nat) (a0_3a : Option Addr) (a0_3n a0_3c : Nat) (a0_4a : Option Addr) (a0_4n a0_4c : Nat) (a0_5a : Option Addr) (a0_5n a0_5c : Nat) : Pu Tryd.prog (xV (Instr.build 177 #[(0, (Value.agg #[(Value.int .i64 a0w), (Value.string a0x), (Value.slice a0_2a a0_2n a0_2c), (Value.slice a0_3a a0_3n a0_3c), (Value.slice a0_4a a0_4n a0_4c), (Value.slice a0_5a a0_5n a0_5c)]))])) (.agg #[(Value.int .i64 a0w), (Value.string a0x), (Value.slice a0_2a a0_2n a0_2c), (Value.slice a0_3a a0_3n a0_3c), (Value.slice a0_4a a0_4n a0_4c), (Value.slice a0_5a a0_5n a0_5c)]) := Pu.ok fun w => by kernel_rfl
theorem b1e (x : C1) : Pu Tryd.prog (xV (Instr.makeInterface 177 (.agg #[(Value.int .i64 x.b3.d5), (Value.string x.b3.c6), (Value.slice x.b3.c5.a x.b3.c5.n x.b3.c5.c), (Value.slice x.b3.h7.a x.b3.h7.n x.b3.h7.c), (Value.slice x.b3.C0.a x.b3.C0.n x.b3.C0.c), (Value.slice x.b3.A8.a x.b3.A8.n x.b3.A8.c)]))) (m3 (a8.u6 x)) := Pu.ok fun _w => rfl
theorem b2B (x : a8) : Pu Tryd.prog (xV (Instr.typeAssert (m3 x) 141 175 true)) (.tuple #[(Value.agg #[(Value.string ((((x.J3)).D3).c6)), (Value.int .i64 ((((x.J3)).D3).L9))]), .bool (x.a2x)]) := by
  cases x <;> exact Pu.ok fun w => by kernel_rfl
theorem a1q {g o : Nat} : Pu Tryd.prog (xV (Instr.fieldAt 175 (.pointer (some ⟨g, o, none⟩)) 0)) (.pointer (some ⟨g, o + 0, none⟩)) := Pu.ok fun w => by kernel_rfl
theorem b2C (x : a8) : Pu Tryd.prog (xV (Instr.typeAssert (m3 x) 141 177 true)) (.tuple #[(Value.agg #[(Value.int .i64 ((((x.b8)).b3).d5)), (Value.string ((((x.b8)).b3).c6)), (Value.slice ((((x.b8)).b3).c5).a ((((x.b8)).b3).c5).n ((((x.b8)).b3).c5).c), (Value.slice ((((x.b8)).b3).h7).a ((((x.b8)).b3).h7).n ((((x.b8)).b3).h7).c), (Value.slice ((((x.b8)).b3).C0).a ((((x.b8)).b3).C0).n ((((x.b8)).b3).C0).c), (Value.slice ((((x.b8)).b3).A8).a ((((x.b8)).b3).A8).n ((((x.b8)).b3).A8).c)]), .bool (x.a2y)]) := by
  cases x <;> exact Pu.ok fun w => by kernel_rfl
theorem u7 {g o : Nat} : Pu Tryd.prog (xV (Instr.fieldAt 177 (.pointer (some ⟨g, o, none⟩)) 0)) (.pointer (some ⟨g, o + 0, none⟩)) := Pu.ok fun w => by kernel_rfl
theorem b3q (x : a8) : Pu Tryd.prog (xV (Instr.typeAssert (m3 x) 141 96 true)) (.tuple #[(Value.agg #[(Value.int .i64 ((((x.i4)).f5).d5)), (Value.int .i64 ((((x.i4)).f5).X3)), (Value.string ((((x.i4)).f5).c6)), (Value.slice ((((x.i4)).f5).y8).a ((((x.i4)).f5).y8).n ((((x.i4)).f5).y8).c)]), .bool (x.a2w)]) := by
  cases x <;> exact Pu.ok fun w => by kernel_rfl
theorem C2 {g o : Nat} : Pu Tryd.prog (xV (Instr.fieldAt 96 (.pointer (some ⟨g, o, none⟩)) 0)) (.pointer (some ⟨g, o + 0, none⟩)) := Pu.ok fun w => by kernel_rfl
theorem K7 {g o : Nat} : Pu Tryd.prog (xV (Instr.fieldAt 106 (.pointer (some ⟨g, o, none⟩)) 0)) (.pointer (some ⟨g, o + 0, none⟩)) := Pu.ok fun w => by kernel_rfl
theorem T4 (a0 : Int) (a1 : Int) : Pu Tryd.prog (xV (Instr.build 209 #[(0, (Value.int .i64 a0)), (1, (Value.int .i64 a1))])) (.agg #[(Value.int .i64 a0), (Value.int .i64 a1)]) := Pu.ok fun w => by kernel_rfl
theorem c4T (d : Nat) (a0 b0 : Int) (a1 b1 : Int) (w : World) : (Op.equalIn (d + 2) 209 (.agg #[(Value.int .i64 a0), (Value.int .i64 a1)]) (.agg #[(Value.int .i64 b0), (Value.int .i64 b1)])).run Tryd.prog w = .ok (decide (a0 = b0 ∧ a1 = b1)) w := by
  have u3 := Tryd.underlying3
  have i3 := Tryd.isAgg3
  have s3 := Tryd.sizeOf3
  have hS : Tryd.prog.underlying 209 = some (.struct (Tryd.prog.fieldsOf 209)) := by kernel_rfl
  rw [run_equalIn_agg w (d + 1) 209 _ _ hS (by kernel_rfl)]
  simp only [Program.fieldsOf, Tryd.underlying209]
  go_simp
  try simp only [b2W]
  by_cases h0 : a0 = b0
  · by_cases h1 : a1 = b1
    · simp [h0, h1]
    · simp [h0, h1]
  · simp [h0]
theorem a1T (x y : Operand) (a0 b0 : Int) (a1 b1 : Int) : Pu Tryd.prog (xBin .eql 209 x y (.agg #[(Value.int .i64 a0), (Value.int .i64 a1)]) (.agg #[(Value.int .i64 b0), (Value.int .i64 b1)])) (.bool (decide (a0 = b0 ∧ a1 = b1))) := by
  refine Pu.ok (s := do eqGuard .eql 209 x y (.agg #[(Value.int .i64 a0), (Value.int .i64 a1)]) (.agg #[(Value.int .i64 b0), (Value.int .i64 b1)]); binOp .eql 209 (.agg #[(Value.int .i64 a0), (Value.int .i64 a1)]) (.agg #[(Value.int .i64 b0), (Value.int .i64 b1)])) fun w => ?_
  rw [Sem.run_bind, run_eqGuard_agg w _ _ _ _ _ _ (by kernel_rfl), Result.andThen_ok, run_eql_struct, show (10000 : Nat) = 9998 + 2 from rfl, c4T]
  rfl
theorem b6s  : Pu Tryd.prog (xV (Instr.build 209 #[])) (.agg #[(Value.int .i64 0), (Value.int .i64 0)]) := Pu.ok fun w => by kernel_rfl
theorem u2 (a0 : Int) (a1 : Int) : Pu Tryd.prog (xV (Instr.build 213 #[(0, (Value.int .i64 a0)), (1, (Value.int .i64 a1))])) (.agg #[(Value.int .i64 a0), (Value.int .i64 a1)]) := Pu.ok fun w => by kernel_rfl
theorem c4U (d : Nat) (a0 b0 : Int) (a1 b1 : Int) (w : World) : (Op.equalIn (d + 2) 213 (.agg #[(Value.int .i64 a0), (Value.int .i64 a1)]) (.agg #[(Value.int .i64 b0), (Value.int .i64 b1)])).run Tryd.prog w = .ok (decide (a0 = b0 ∧ a1 = b1)) w := by
  have u3 := Tryd.underlying3
  have i3 := Tryd.isAgg3
  have s3 := Tryd.sizeOf3
  have hS : Tryd.prog.underlying 213 = some (.struct (Tryd.prog.fieldsOf 213)) := by kernel_rfl
  rw [run_equalIn_agg w (d + 1) 213 _ _ hS (by kernel_rfl)]
  simp only [Program.fieldsOf, Tryd.underlying213]
  go_simp
  try simp only [b2W]
  by_cases h0 : a0 = b0
  · by_cases h1 : a1 = b1
    · simp [h0, h1]
    · simp [h0, h1]
  · simp [h0]
theorem D2 (x y : Operand) (a0 b0 : Int) (a1 b1 : Int) : Pu Tryd.prog (xBin .eql 213 x y (.agg #[(Value.int .i64 a0), (Value.int .i64 a1)]) (.agg #[(Value.int .i64 b0), (Value.int .i64 b1)])) (.bool (decide (a0 = b0 ∧ a1 = b1))) := by
  refine Pu.ok (s := do eqGuard .eql 213 x y (.agg #[(Value.int .i64 a0), (Value.int .i64 a1)]) (.agg #[(Value.int .i64 b0), (Value.int .i64 b1)]); binOp .eql 213 (.agg #[(Value.int .i64 a0), (Value.int .i64 a1)]) (.agg #[(Value.int .i64 b0), (Value.int .i64 b1)])) fun w => ?_
  rw [Sem.run_bind, run_eqGuard_agg w _ _ _ _ _ _ (by kernel_rfl), Result.andThen_ok, run_eql_struct, show (10000 : Nat) = 9998 + 2 from rfl, c4U]
  rfl
theorem a6k  : Pu Tryd.prog (xV (Instr.build 213 #[])) (.agg #[(Value.int .i64 0), (Value.int .i64 0)]) := Pu.ok fun w => by kernel_rfl
theorem c1h (a0a : Option Addr) (a0n a0c : Nat) (a1a : Option Addr) (a1n a1c : Nat) (a2a : Option Addr) (a2n a2c : Nat) (a3a : Option Addr) (a3n a3c : Nat) (w : World) : (Instr.buildSlice 172 4 #[(0, (Value.slice a0a a0n a0c)), (1, (Value.slice a1a a1n a1c)), (2, (Value.slice a2a a2n a2c)), (3, (Value.slice a3a a3n a3c))]).run Tryd.prog w = .ok (.slice (some ⟨w.heap.size, 0, none⟩) 4 4) (w.alloc (.cells [(Value.slice a0a a0n a0c), (Value.slice a1a a1n a1c), (Value.slice a2a a2n a2c), (Value.slice a3a a3n a3c)].toArray 97)) := by kernel_rfl
abbrev d9 (x : i6) : List Value := [(Value.slice x.L8.a x.L8.n x.L8.c), (Value.slice x.L1.a x.L1.n x.L1.c)]
abbrev a0X (x : b7) : List Value := [(Value.int .i64 x.fnodes), (Value.int .i64 x.fdepth), (Value.int .i64 x.fe), (Value.bool x.fform), (Value.bool x.fnamed), (Value.slice x.fnames.a x.fnames.n x.fnames.c)]
end Go.Proofs.YthldnpmfelniiaaDoor
