/- Single operations at this program's types, and its structures; printed by lift.py. -/
import Derived.Test.YthldnpmfelniiaaDoorProg
import Derived.Test.YthldnpmfelniiaaDoorzTS5
import Derived.KernelRfl
import Derived.Laws.StructEq
import Derived.Laws.Tables
import Derived.Laws.Cover2
namespace Go.Proofs.YthldnpmfelniiaaDoor
open Go.RowKit
set_option maxRecDepth 100000
set_option maxHeartbeats 2000000
structure o8 where
  K9 : Sl
  W9 : Sl
structure o9 where
  d4 : Int
  V8 : Int
  c6 : ByteArray
  u5 : Sl
structure p8 where
  d4 : Int
  fOp : Int
  b9 : Sl
  m9 : Sl
structure d6 where
  c6 : ByteArray
  K0 : Int
structure a9k where
  c6 : ByteArray
  d4a : Bool
structure u6 where
  d8 : o9
structure b7 where
  fnodes : Int
  fdepth : Int
  fe : Int
  fform : Bool
  fnamed : Bool
  fnames : Sl
structure a8m where
  fn : Int
  fdepth : Int
  fbad : Int
structure a8n where
  fok : Bool
  fnames : Bool
structure B3 where
  d5 : p8
structure p5 where
  d4 : Int
  c6 : ByteArray
  b9 : Sl
  g9 : Sl
  B4 : Sl
  z7 : Sl
structure d9l where
  f0 : Int
  f1 : Int
  f2 : Int
  f3 : Int
structure b6 where
  fl : Sl
structure b4 where
  fname : ByteArray
  fas : Int
structure D3 where
  C6 : d6
structure B5 where
  b3 : p5
structure u1 where
  fexprs : Int
  fparts : Int
structure l7 where
  fexprs : Int
  fconds : Int
inductive a8 where
  | nil
  | s9 (x : u6)
  | A4 (x : B3)
  | y8 (x : D3)
  | t7 (x : B5)
def l9 : a8 → Value
  | .nil => .nilIface
  | .s9 x => .iface 96 (.agg #[(Value.int .i64 x.d8.d4), (Value.int .i64 x.d8.V8), (Value.string x.d8.c6), (Value.slice x.d8.u5.a x.d8.u5.n x.d8.u5.c)])
  | .A4 x => .iface 106 (.agg #[(Value.int .i64 x.d5.d4), (Value.int .i64 x.d5.fOp), (Value.slice x.d5.b9.a x.d5.b9.n x.d5.b9.c), (Value.slice x.d5.m9.a x.d5.m9.n x.d5.m9.c)])
  | .y8 x => .iface 175 (.agg #[(Value.string x.C6.c6), (Value.int .i64 x.C6.K0)])
  | .t7 x => .iface 177 (.agg #[(Value.int .i64 x.b3.d4), (Value.string x.b3.c6), (Value.slice x.b3.b9.a x.b3.b9.n x.b3.b9.c), (Value.slice x.b3.g9.a x.b3.g9.n x.b3.g9.c), (Value.slice x.b3.B4.a x.b3.B4.n x.b3.B4.c), (Value.slice x.b3.z7.a x.b3.z7.n x.b3.z7.c)])
theorem b1G (x : a8) : [l9 x].all (·.oneCell') = true := by cases x <;> rfl
def a8.h8 : a8 → u6
  | .s9 x => x
  | _ => (u6.mk (o9.mk 0 0 ⟨#[]⟩ (Sl.mk none 0 0)))
def a8.a1V : a8 → Bool
  | .s9 _ => true
  | _ => false
def a8.G3 : a8 → D3
  | .y8 x => x
  | _ => (D3.mk (d6.mk ⟨#[]⟩ 0))
def a8.a1W : a8 → Bool
  | .y8 _ => true
  | _ => false
def a8.b8 : a8 → B5
  | .t7 x => x
  | _ => (B5.mk (p5.mk 0 ⟨#[]⟩ (Sl.mk none 0 0) (Sl.mk none 0 0) (Sl.mk none 0 0) (Sl.mk none 0 0)))
def a8.a1X : a8 → Bool
  | .t7 _ => true
  | _ => false
theorem b9F (x y : Operand) (a b : Bool) : Pu Tryd.prog (xBin .eql 4 x y (.bool a) (.bool b)) (.bool (a == b)) := c5A _ _ _ a b Tryd.underlying4
theorem X0 {g o : Nat} : Pu Tryd.prog (xV (Instr.fieldAt 25 (.pointer (some ⟨g, o, none⟩)) 0)) (.pointer (some ⟨g, o + 0, none⟩)) := Pu.ok fun w => by kernel_rfl
theorem a4n (a : Option Addr) (n c : Nat) : Pu Tryd.prog (xBuiltin .len #[22] 3 [false] [.slice a n c]) (.int .i64 (n : Int)) := S1 Tryd.underlying22 a n c
theorem a8o {a : Option Addr} {g o : Nat} (ha : a = some ⟨g, o, none⟩) (len cap : Nat) (k : IntKind) (i : Int) (h0 : 0 ≤ i) (h1 : i < len) : Pu Tryd.prog (xV (Instr.indexAt 22 (.slice a len cap) (.int k i))) (.pointer (some ⟨g, o + i.toNat * 2, none⟩)) := T8 Tryd.underlying22 Tryd.sizeOf67 ha len cap k i h0 h1
theorem a0s {g o : Nat} : Pu Tryd.prog (xV (Instr.fieldAt 67 (.pointer (some ⟨g, o, none⟩)) 0)) (.pointer (some ⟨g, o + 0, none⟩)) := Pu.ok fun w => by kernel_rfl
theorem a5k {g o : Nat} : Pu Tryd.prog (xV (Instr.fieldAt 25 (.pointer (some ⟨g, o, none⟩)) 1)) (.pointer (some ⟨g, o + 1, none⟩)) := Pu.ok fun w => by kernel_rfl
theorem b4i (a1a : Option Addr) (a1n a1c : Nat) : Pu Tryd.prog (xV (Instr.build 25 #[(1, (Value.slice a1a a1n a1c))])) (.agg #[(Value.slice none 0 0), (Value.slice a1a a1n a1c)]) := Pu.ok fun w => by kernel_rfl
abbrev g7 (x : d6) : List Value := [(Value.string x.c6), (Value.int .i64 x.K0)]
theorem a2J (x : d6) : (g7 x).length = 2 := rfl
theorem a2K (x : d6) : (g7 x).all (·.oneCell') = true := rfl
theorem c3g (V9 : ByteArray) (W0 : Int) (w : World) : (Instr.buildSlice 22 1 #[(0, (Value.agg #[(Value.string V9), (Value.int .i64 W0)]))]).run Tryd.prog w = .ok (.slice (some ⟨w.heap.size, 0, none⟩) 1 1) (w.alloc (.cells [(Value.string V9), (Value.int .i64 W0)].toArray 67)) := by kernel_rfl
theorem c5D : Tryd.prog.info? 67 = some ((Tryd.prog.info? 67).getD default) := by kernel_rfl
theorem c5E {E : Pan} {w0 w : World} {ps : Nat → Prop} {H0 H : Hp} {Fs : List Frag} {K : Value → World → Prop} {s : Sl} {xs : List d6} {F : Frag} {t2 : Sl} {ys : List d6} {ks : List Bool} {ty : TypeId} (I : Inv w0 ps H0 H (F :: Fs) w) (hr : RowL 67 2 g7 s xs F) (hs : SrcO w g7 t2 ys) (hb : (xs.length + ys.length) * 25 ≤ 140737488355328) (h : ∀ (s' : Sl) (F' : Frag) (w' : World), RowL 67 2 g7 s' (xs ++ ys) F' → Inv w0 ps H0 H (F' :: Fs) w' → (∀ k, k < w.heap.size → (∀ p ∈ F, p.1 ≠ k) → w'.heap[k]? = w.heap[k]?) → K (.slice s'.a s'.n s'.c) w') : opK Tryd.prog E (xBuiltin .append #[22, 22] ty ks [.slice s.a s.n s.c, .slice t2.a t2.n t2.c]) w K :=
  b1L (bytes := 24) Tryd.underlying22 c5D (z := (Value.agg #[(Value.string ⟨#[]⟩), (Value.int .i64 0)])) (by kernel_rfl) (by kernel_rfl) (by kernel_rfl) (by kernel_rfl) I hr hs hb h
theorem a0g (a : Option Addr) (n c : Nat) : Pu Tryd.prog (xBuiltin .len #[23] 3 [false] [.slice a n c]) (.int .i64 (n : Int)) := S1 Tryd.underlying23 a n c
theorem b4j (V9 : Int) (W0 : Int) (c5F : ByteArray) (a0_3a : Option Addr) (a0_3n a0_3c : Nat) : Pu Tryd.prog (xV (Instr.build 96 #[(0, (Value.agg #[(Value.int .i64 V9), (Value.int .i64 W0), (Value.string c5F), (Value.slice a0_3a a0_3n a0_3c)]))])) (.agg #[(Value.int .i64 V9), (Value.int .i64 W0), (Value.string c5F), (Value.slice a0_3a a0_3n a0_3c)]) := Pu.ok fun w => by kernel_rfl
theorem a6s (x : u6) : Pu Tryd.prog (xV (Instr.makeInterface 96 (.agg #[(Value.int .i64 x.d8.d4), (Value.int .i64 x.d8.V8), (Value.string x.d8.c6), (Value.slice x.d8.u5.a x.d8.u5.n x.d8.u5.c)]))) (l9 (a8.s9 x)) := Pu.ok fun _w => rfl
abbrev h7 (x : a8) : List Value := [(l9 x)]
theorem C7 (x : a8) : (h7 x).length = 1 := rfl
theorem E2 (x : a8) : (h7 x).all (·.oneCell') = true := b1G x
theorem a7x (a0 : a8) (w : World) : (Instr.buildSlice 97 1 #[(0, (l9 a0))]).run Tryd.prog w = .ok (.slice (some ⟨w.heap.size, 0, none⟩) 1 1) (w.alloc (.cells [(l9 a0)].toArray 141)) := by cases a0 <;> kernel_rfl
theorem a1x {g o : Nat} : Pu Tryd.prog (xV (Instr.fieldAt 92 (.pointer (some ⟨g, o, none⟩)) 2)) (.pointer (some ⟨g, o + 2, none⟩)) := Pu.ok fun w => by kernel_rfl
theorem a5l {g o : Nat} : Pu Tryd.prog (xV (Instr.fieldAt 30 (.pointer (some ⟨g, o, none⟩)) 3)) (.pointer (some ⟨g, o + 3, none⟩)) := Pu.ok fun w => by kernel_rfl
theorem a0h (a : Option Addr) (n c : Nat) : Pu Tryd.prog (xBuiltin .len #[28] 3 [false] [.slice a n c]) (.int .i64 (n : Int)) := S1 Tryd.underlying28 a n c
theorem a5m {a : Option Addr} {g o : Nat} (ha : a = some ⟨g, o, none⟩) (len cap : Nat) (k : IntKind) (i : Int) (h0 : 0 ≤ i) (h1 : i < len) : Pu Tryd.prog (xV (Instr.indexAt 28 (.slice a len cap) (.int k i))) (.pointer (some ⟨g, o + i.toNat * 4, none⟩)) := T8 Tryd.underlying28 Tryd.sizeOf30 ha len cap k i h0 h1
theorem X1 {g o : Nat} : Pu Tryd.prog (xV (Instr.fieldAt 30 (.pointer (some ⟨g, o, none⟩)) 0)) (.pointer (some ⟨g, o + 0, none⟩)) := Pu.ok fun w => by kernel_rfl
theorem X2 {g o : Nat} : Pu Tryd.prog (xV (Instr.fieldAt 30 (.pointer (some ⟨g, o, none⟩)) 2)) (.pointer (some ⟨g, o + 2, none⟩)) := Pu.ok fun w => by kernel_rfl
theorem a2X {g o : Nat} : Pu Tryd.prog (xV (Instr.fieldAt 30 (.pointer (some ⟨g, o, none⟩)) 1)) (.pointer (some ⟨g, o + 1, none⟩)) := Pu.ok fun w => by kernel_rfl
theorem b2l (V9 : Int) (W0 : Int) (a0_2a : Option Addr) (a0_2n a0_2c : Nat) (a0_3a : Option Addr) (a0_3n a0_3c : Nat) : Pu Tryd.prog (xV (Instr.build 106 #[(0, (Value.agg #[(Value.int .i64 V9), (Value.int .i64 W0), (Value.slice a0_2a a0_2n a0_2c), (Value.slice a0_3a a0_3n a0_3c)]))])) (.agg #[(Value.int .i64 V9), (Value.int .i64 W0), (Value.slice a0_2a a0_2n a0_2c), (Value.slice a0_3a a0_3n a0_3c)]) := Pu.ok fun w => by kernel_rfl
theorem b0j (x : B3) : Pu Tryd.prog (xV (Instr.makeInterface 106 (.agg #[(Value.int .i64 x.d5.d4), (Value.int .i64 x.d5.fOp), (Value.slice x.d5.b9.a x.d5.b9.n x.d5.b9.c), (Value.slice x.d5.m9.a x.d5.m9.n x.d5.m9.c)]))) (l9 (a8.A4 x)) := Pu.ok fun _w => rfl
theorem a5n {g o : Nat} : Pu Tryd.prog (xV (Instr.fieldAt 33 (.pointer (some ⟨g, o, none⟩)) 2)) (.pointer (some ⟨g, o + 2, none⟩)) := Pu.ok fun w => by kernel_rfl
theorem a5o {g o : Nat} : Pu Tryd.prog (xV (Instr.fieldAt 33 (.pointer (some ⟨g, o, none⟩)) 3)) (.pointer (some ⟨g, o + 3, none⟩)) := Pu.ok fun w => by kernel_rfl
theorem a2D (a : Option Addr) (n c : Nat) : Pu Tryd.prog (xBuiltin .len #[31] 3 [false] [.slice a n c]) (.int .i64 (n : Int)) := S1 Tryd.underlying31 a n c
theorem a8p {a : Option Addr} {g o : Nat} (ha : a = some ⟨g, o, none⟩) (len cap : Nat) (k : IntKind) (i : Int) (h0 : 0 ≤ i) (h1 : i < len) : Pu Tryd.prog (xV (Instr.indexAt 31 (.slice a len cap) (.int k i))) (.pointer (some ⟨g, o + i.toNat * 4, none⟩)) := T8 Tryd.underlying31 Tryd.sizeOf33 ha len cap k i h0 h1
theorem a9l {g o : Nat} : Pu Tryd.prog (xV (Instr.fieldAt 33 (.pointer (some ⟨g, o, none⟩)) 0)) (.pointer (some ⟨g, o + 0, none⟩)) := Pu.ok fun w => by kernel_rfl
theorem a1y {g o : Nat} : Pu Tryd.prog (xV (Instr.fieldAt 33 (.pointer (some ⟨g, o, none⟩)) 1)) (.pointer (some ⟨g, o + 1, none⟩)) := Pu.ok fun w => by kernel_rfl
theorem a8b (a0 : ByteArray) : Pu Tryd.prog (xV (Instr.build 67 #[(0, (Value.string a0))])) (.agg #[(Value.string a0), (Value.int .i64 0)]) := Pu.ok fun w => by kernel_rfl
theorem b4k (a0a : Option Addr) (a0n a0c : Nat) : Pu Tryd.prog (xV (Instr.build 25 #[(0, (Value.slice a0a a0n a0c))])) (.agg #[(Value.slice a0a a0n a0c), (Value.slice none 0 0)]) := Pu.ok fun w => by kernel_rfl
theorem a0t {g o : Nat} : Pu Tryd.prog (xV (Instr.fieldAt 67 (.pointer (some ⟨g, o, none⟩)) 1)) (.pointer (some ⟨g, o + 1, none⟩)) := Pu.ok fun w => by kernel_rfl
theorem b2m {a : Option Addr} {g o : Nat} (ha : a = some ⟨g, o, none⟩) (len cap : Nat) (k : IntKind) (i : Int) (h0 : 0 ≤ i) (h1 : i < len) : Pu Tryd.prog (xV (Instr.indexAt 23 (.slice a len cap) (.int k i))) (.pointer (some ⟨g, o + i.toNat * 6, none⟩)) := T8 Tryd.underlying23 Tryd.sizeOf88 ha len cap k i h0 h1
theorem a0u {g o : Nat} : Pu Tryd.prog (xV (Instr.fieldAt 88 (.pointer (some ⟨g, o, none⟩)) 0)) (.pointer (some ⟨g, o + 0, none⟩)) := Pu.ok fun w => by kernel_rfl
theorem a0v {g o : Nat} : Pu Tryd.prog (xV (Instr.fieldAt 88 (.pointer (some ⟨g, o, none⟩)) 1)) (.pointer (some ⟨g, o + 1, none⟩)) := Pu.ok fun w => by kernel_rfl
theorem a5p {g o : Nat} : Pu Tryd.prog (xV (Instr.fieldAt 88 (.pointer (some ⟨g, o, none⟩)) 2)) (.pointer (some ⟨g, o + 2, none⟩)) := Pu.ok fun w => by kernel_rfl
theorem a5q {g o : Nat} : Pu Tryd.prog (xV (Instr.fieldAt 88 (.pointer (some ⟨g, o, none⟩)) 3)) (.pointer (some ⟨g, o + 3, none⟩)) := Pu.ok fun w => by kernel_rfl
theorem a5r {g o : Nat} : Pu Tryd.prog (xV (Instr.fieldAt 88 (.pointer (some ⟨g, o, none⟩)) 4)) (.pointer (some ⟨g, o + 4, none⟩)) := Pu.ok fun w => by kernel_rfl
theorem a0w {g o : Nat} : Pu Tryd.prog (xV (Instr.fieldAt 88 (.pointer (some ⟨g, o, none⟩)) 5)) (.pointer (some ⟨g, o + 5, none⟩)) := Pu.ok fun w => by kernel_rfl
theorem a9m {g o : Nat} : Pu Tryd.prog (xV (Instr.fieldAt 92 (.pointer (some ⟨g, o, none⟩)) 1)) (.pointer (some ⟨g, o + 1, none⟩)) := Pu.ok fun w => by kernel_rfl
theorem a5s {g o : Nat} : Pu Tryd.prog (xV (Instr.fieldAt 92 (.pointer (some ⟨g, o, none⟩)) 0)) (.pointer (some ⟨g, o + 0, none⟩)) := Pu.ok fun w => by kernel_rfl
theorem a5t {g o : Nat} : Pu Tryd.prog (xV (Instr.fieldAt 92 (.pointer (some ⟨g, o, none⟩)) 5)) (.pointer (some ⟨g, o + 5, none⟩)) := Pu.ok fun w => by kernel_rfl
theorem b9G {a : Option Addr} {g o : Nat} (ha : a = some ⟨g, o, none⟩) (len cap : Nat) (k : IntKind) (i : Int) (h0 : 0 ≤ i) (h1 : i < len) : Pu Tryd.prog (xV (Instr.indexAt 47 (.slice a len cap) (.int k i))) (.pointer (some ⟨g, o + i.toNat * 1, none⟩)) := T8 Tryd.underlying47 Tryd.sizeOf9 ha len cap k i h0 h1
abbrev s8 (x : ByteArray) : List Value := [(Value.string x)]
theorem a8c (x : ByteArray) : (s8 x).length = 1 := rfl
theorem a8d (x : ByteArray) : (s8 x).all (·.oneCell') = true := rfl
theorem c3h (V9 : ByteArray) (W0 : Int) (c5G : ByteArray) (c5H : Int) (w : World) : (Instr.buildSlice 22 2 #[(0, (Value.agg #[(Value.string V9), (Value.int .i64 W0)])), (1, (Value.agg #[(Value.string c5G), (Value.int .i64 c5H)]))]).run Tryd.prog w = .ok (.slice (some ⟨w.heap.size, 0, none⟩) 2 2) (w.alloc (.cells [(Value.string V9), (Value.int .i64 W0), (Value.string c5G), (Value.int .i64 c5H)].toArray 67)) := by kernel_rfl
theorem b5c  : Pu Tryd.prog (xV (Instr.build 126 #[])) (.agg #[(Value.slice none 0 0)]) := Pu.ok fun w => by kernel_rfl
abbrev i4 (x : b4) : List Value := [(Value.string x.fname), (Value.int .i64 x.fas)]
theorem Z1 (x : b4) : (i4 x).length = 2 := rfl
theorem Z2 (x : b4) : (i4 x).all (·.oneCell') = true := rfl
theorem P6 {g o : Nat} : Pu Tryd.prog (xV (Instr.fieldAt 126 (.pointer (some ⟨g, o, none⟩)) 0)) (.pointer (some ⟨g, o + 0, none⟩)) := Pu.ok fun w => by kernel_rfl
theorem a0x (a0 : ByteArray) (a1 : Int) : Pu Tryd.prog (xV (Instr.build 128 #[(0, (Value.string a0)), (1, (Value.int .i64 a1))])) (.agg #[(Value.string a0), (Value.int .i64 a1)]) := Pu.ok fun w => by kernel_rfl
theorem a5u (V9 : ByteArray) (W0 : Int) (w : World) : (Instr.buildSlice 124 1 #[(0, (Value.agg #[(Value.string V9), (Value.int .i64 W0)]))]).run Tryd.prog w = .ok (.slice (some ⟨w.heap.size, 0, none⟩) 1 1) (w.alloc (.cells [(Value.string V9), (Value.int .i64 W0)].toArray 128)) := by kernel_rfl
theorem c3i : Tryd.prog.info? 128 = some ((Tryd.prog.info? 128).getD default) := by kernel_rfl
theorem a7y {E : Pan} {w0 w : World} {ps : Nat → Prop} {H0 H : Hp} {Fs : List Frag} {K : Value → World → Prop} {s : Sl} {xs : List b4} {F : Frag} {t2 : Sl} {ys : List b4} {ks : List Bool} {ty : TypeId} (I : Inv w0 ps H0 H (F :: Fs) w) (hr : RowL 128 2 i4 s xs F) (hs : SrcO w i4 t2 ys) (hb : (xs.length + ys.length) * 25 ≤ 140737488355328) (h : ∀ (s' : Sl) (F' : Frag) (w' : World), RowL 128 2 i4 s' (xs ++ ys) F' → Inv w0 ps H0 H (F' :: Fs) w' → (∀ k, k < w.heap.size → (∀ p ∈ F, p.1 ≠ k) → w'.heap[k]? = w.heap[k]?) → K (.slice s'.a s'.n s'.c) w') : opK Tryd.prog E (xBuiltin .append #[124, 124] ty ks [.slice s.a s.n s.c, .slice t2.a t2.n t2.c]) w K :=
  b1L (bytes := 24) Tryd.underlying124 c3i (z := (Value.agg #[(Value.string ⟨#[]⟩), (Value.int .i64 0)])) (by kernel_rfl) (by kernel_rfl) (by kernel_rfl) (by kernel_rfl) I hr hs hb h
theorem b7E {a : Option Addr} {g o : Nat} (ha : a = some ⟨g, o, none⟩) (len cap : Nat) (k : IntKind) (i : Int) (h0 : 0 ≤ i) (h1 : i < len) : Pu Tryd.prog (xV (Instr.indexAt 124 (.slice a len cap) (.int k i))) (.pointer (some ⟨g, o + i.toNat * 2, none⟩)) := T8 Tryd.underlying124 Tryd.sizeOf128 ha len cap k i h0 h1
theorem a4D {g o : Nat} : Pu Tryd.prog (xV (Instr.fieldAt 128 (.pointer (some ⟨g, o, none⟩)) 0)) (.pointer (some ⟨g, o + 0, none⟩)) := Pu.ok fun w => by kernel_rfl
theorem b4l {g o : Nat} : Pu Tryd.prog (xV (Instr.fieldAt 128 (.pointer (some ⟨g, o, none⟩)) 1)) (.pointer (some ⟨g, o + 1, none⟩)) := Pu.ok fun w => by kernel_rfl
theorem c3j (a0 : ByteArray) (w : World) : (Instr.buildSlice 47 1 #[(0, (Value.string a0))]).run Tryd.prog w = .ok (.slice (some ⟨w.heap.size, 0, none⟩) 1 1) (w.alloc (.cells [(Value.string a0)].toArray 9)) := by kernel_rfl
theorem d4b : Tryd.prog.info? 9 = some ((Tryd.prog.info? 9).getD default) := by kernel_rfl
theorem c5I {E : Pan} {w0 w : World} {ps : Nat → Prop} {H0 H : Hp} {Fs : List Frag} {K : Value → World → Prop} {s : Sl} {xs : List ByteArray} {F : Frag} {t2 : Sl} {ys : List ByteArray} {ks : List Bool} {ty : TypeId} (I : Inv w0 ps H0 H (F :: Fs) w) (hr : RowL 9 1 s8 s xs F) (hs : SrcO w s8 t2 ys) (hb : (xs.length + ys.length) * 17 ≤ 140737488355328) (h : ∀ (s' : Sl) (F' : Frag) (w' : World), RowL 9 1 s8 s' (xs ++ ys) F' → Inv w0 ps H0 H (F' :: Fs) w' → (∀ k, k < w.heap.size → (∀ p ∈ F, p.1 ≠ k) → w'.heap[k]? = w.heap[k]?) → K (.slice s'.a s'.n s'.c) w') : opK Tryd.prog E (xBuiltin .append #[47, 47] ty ks [.slice s.a s.n s.c, .slice t2.a t2.n t2.c]) w K :=
  b1L (bytes := 16) Tryd.underlying47 d4b (z := (Value.string ⟨#[]⟩)) (by kernel_rfl) (by kernel_rfl) (by kernel_rfl) (by kernel_rfl) I hr hs hb h
abbrev c8 (x : o9) : List Value := [(Value.int .i64 x.d4), (Value.int .i64 x.V8), (Value.string x.c6), (Value.slice x.u5.a x.u5.n x.u5.c)]
abbrev f6 (x : p5) : List Value := [(Value.int .i64 x.d4), (Value.string x.c6), (Value.slice x.b9.a x.b9.n x.b9.c), (Value.slice x.g9.a x.g9.n x.g9.c), (Value.slice x.B4.a x.B4.n x.B4.c), (Value.slice x.z7.a x.z7.n x.z7.c)]
theorem b7F  : Pu Tryd.prog (xV (Instr.build 92 #[])) (.agg #[(Value.int .i64 0), (Value.int .i64 0), (Value.int .i64 0), (Value.bool false), (Value.bool false), (Value.slice none 0 0)]) := Pu.ok fun w => by kernel_rfl
theorem a4o (a : Option Addr) (n c : Nat) : Pu Tryd.prog (xBuiltin .len #[97] 3 [false] [.slice a n c]) (.int .i64 (n : Int)) := S1 Tryd.underlying97 a n c
theorem b9H {a : Option Addr} {g o : Nat} (ha : a = some ⟨g, o, none⟩) (len cap : Nat) (k : IntKind) (i : Int) (h0 : 0 ≤ i) (h1 : i < len) : Pu Tryd.prog (xV (Instr.indexAt 97 (.slice a len cap) (.int k i))) (.pointer (some ⟨g, o + i.toNat * 1, none⟩)) := T8 Tryd.underlying97 Tryd.sizeOf141 ha len cap k i h0 h1
theorem a5v {g o : Nat} : Pu Tryd.prog (xV (Instr.fieldAt 92 (.pointer (some ⟨g, o, none⟩)) 3)) (.pointer (some ⟨g, o + 3, none⟩)) := Pu.ok fun w => by kernel_rfl
theorem a5w {g o : Nat} : Pu Tryd.prog (xV (Instr.fieldAt 92 (.pointer (some ⟨g, o, none⟩)) 4)) (.pointer (some ⟨g, o + 4, none⟩)) := Pu.ok fun w => by kernel_rfl
theorem b2n (a0a : Option Addr) (a0n a0c : Nat) (a1a : Option Addr) (a1n a1c : Nat) (w : World) : (Instr.buildSlice 172 2 #[(0, (Value.slice a0a a0n a0c)), (1, (Value.slice a1a a1n a1c))]).run Tryd.prog w = .ok (.slice (some ⟨w.heap.size, 0, none⟩) 2 2) (w.alloc (.cells [(Value.slice a0a a0n a0c), (Value.slice a1a a1n a1c)].toArray 97)) := by kernel_rfl
abbrev d9 (x : p8) : List Value := [(Value.int .i64 x.d4), (Value.int .i64 x.fOp), (Value.slice x.b9.a x.b9.n x.b9.c), (Value.slice x.m9.a x.m9.n x.m9.c)]
theorem a9n (a : Option Addr) (n c : Nat) : Pu Tryd.prog (xBuiltin .len #[172] 3 [false] [.slice a n c]) (.int .i64 (n : Int)) := S1 Tryd.underlying172 a n c
theorem b1s {a : Option Addr} {g o : Nat} (ha : a = some ⟨g, o, none⟩) (len cap : Nat) (k : IntKind) (i : Int) (h0 : 0 ≤ i) (h1 : i < len) : Pu Tryd.prog (xV (Instr.indexAt 172 (.slice a len cap) (.int k i))) (.pointer (some ⟨g, o + i.toNat * 1, none⟩)) := T8 Tryd.underlying172 Tryd.sizeOf97 ha len cap k i h0 h1
theorem b7G (s : ByteArray) : Pu Tryd.prog (xV (Instr.makeInterface 9 (.string s))) (.iface 9 (.string s)) := Pu.ok fun w => by kernel_rfl
theorem b4z : Tryd.prog.info? 141 = some ((Tryd.prog.info? 141).getD default) := by kernel_rfl
theorem a6H {E : Pan} {w0 w : World} {ps : Nat → Prop} {H0 H : Hp} {Fs : List Frag} {K : Value → World → Prop} {s : Sl} {xs : List a8} {F : Frag} {t2 : Sl} {ys : List a8} {ks : List Bool} {ty : TypeId} (I : Inv w0 ps H0 H (F :: Fs) w) (hr : RowL 141 1 h7 s xs F) (hs : SrcO w h7 t2 ys) (hb : (xs.length + ys.length) * 17 ≤ 140737488355328) (h : ∀ (s' : Sl) (F' : Frag) (w' : World), RowL 141 1 h7 s' (xs ++ ys) F' → Inv w0 ps H0 H (F' :: Fs) w' → (∀ k, k < w.heap.size → (∀ p ∈ F, p.1 ≠ k) → w'.heap[k]? = w.heap[k]?) → K (.slice s'.a s'.n s'.c) w') : opK Tryd.prog E (xBuiltin .append #[97, 97] ty ks [.slice s.a s.n s.c, .slice t2.a t2.n t2.c]) w K :=
  b1L (bytes := 16) Tryd.underlying97 b4z (z := Value.nilIface) (by kernel_rfl) (by kernel_rfl) (by kernel_rfl) (by kernel_rfl) I hr hs hb h
theorem b2o (V9 : ByteArray) (W0 : Int) : Pu Tryd.prog (xV (Instr.build 175 #[(0, (Value.agg #[(Value.string V9), (Value.int .i64 W0)]))])) (.agg #[(Value.string V9), (Value.int .i64 W0)]) := Pu.ok fun w => by kernel_rfl
theorem b0k (x : D3) : Pu Tryd.prog (xV (Instr.makeInterface 175 (.agg #[(Value.string x.C6.c6), (Value.int .i64 x.C6.K0)]))) (l9 (a8.y8 x)) := Pu.ok fun _w => rfl
theorem b2p (V9 : Int) (W0 : ByteArray) (a0_2a : Option Addr) (a0_2n a0_2c : Nat) (a0_3a : Option Addr) (a0_3n a0_3c : Nat) (a0_4a : Option Addr) (a0_4n a0_4c : Nat) (a0_5a : Option Addr) (a0_5n a0_5c : Nat) : Pu Tryd.prog (xV (Instr.build 177 #[(0, (Value.agg #[(Value.int .i64 V9), (Value.string W0), (Value.slice a0_2a a0_2n a0_2c), (Value.slice a0_3a a0_3n a0_3c), (Value.slice a0_4a a0_4n a0_4c), (Value.slice a0_5a a0_5n a0_5c)]))])) (.agg #[(Value.int .i64 V9), (Value.string W0), (Value.slice a0_2a a0_2n a0_2c), (Value.slice a0_3a a0_3n a0_3c), (Value.slice a0_4a a0_4n a0_4c), (Value.slice a0_5a a0_5n a0_5c)]) := Pu.ok fun w => by kernel_rfl
theorem b0l (x : B5) : Pu Tryd.prog (xV (Instr.makeInterface 177 (.agg #[(Value.int .i64 x.b3.d4), (Value.string x.b3.c6), (Value.slice x.b3.b9.a x.b3.b9.n x.b3.b9.c), (Value.slice x.b3.g9.a x.b3.g9.n x.b3.g9.c), (Value.slice x.b3.B4.a x.b3.B4.n x.b3.B4.c), (Value.slice x.b3.z7.a x.b3.z7.n x.b3.z7.c)]))) (l9 (a8.t7 x)) := Pu.ok fun _w => rfl
theorem b1H (x : a8) : Pu Tryd.prog (xV (Instr.typeAssert (l9 x) 141 175 true)) (.tuple #[(Value.agg #[(Value.string ((((x.G3)).C6).c6)), (Value.int .i64 ((((x.G3)).C6).K0))]), .bool (x.a1W)]) := by
  cases x <;> exact Pu.ok fun w => by kernel_rfl
theorem a0N {g o : Nat} : Pu Tryd.prog (xV (Instr.fieldAt 175 (.pointer (some ⟨g, o, none⟩)) 0)) (.pointer (some ⟨g, o + 0, none⟩)) := Pu.ok fun w => by kernel_rfl
theorem b1I (x : a8) : Pu Tryd.prog (xV (Instr.typeAssert (l9 x) 141 177 true)) (.tuple #[(Value.agg #[(Value.int .i64 ((((x.b8)).b3).d4)), (Value.string ((((x.b8)).b3).c6)), (Value.slice ((((x.b8)).b3).b9).a ((((x.b8)).b3).b9).n ((((x.b8)).b3).b9).c), (Value.slice ((((x.b8)).b3).g9).a ((((x.b8)).b3).g9).n ((((x.b8)).b3).g9).c), (Value.slice ((((x.b8)).b3).B4).a ((((x.b8)).b3).B4).n ((((x.b8)).b3).B4).c), (Value.slice ((((x.b8)).b3).z7).a ((((x.b8)).b3).z7).n ((((x.b8)).b3).z7).c)]), .bool (x.a1X)]) := by
  cases x <;> exact Pu.ok fun w => by kernel_rfl
theorem t8 {g o : Nat} : Pu Tryd.prog (xV (Instr.fieldAt 177 (.pointer (some ⟨g, o, none⟩)) 0)) (.pointer (some ⟨g, o + 0, none⟩)) := Pu.ok fun w => by kernel_rfl
theorem b2q (x : a8) : Pu Tryd.prog (xV (Instr.typeAssert (l9 x) 141 96 true)) (.tuple #[(Value.agg #[(Value.int .i64 ((((x.h8)).d8).d4)), (Value.int .i64 ((((x.h8)).d8).V8)), (Value.string ((((x.h8)).d8).c6)), (Value.slice ((((x.h8)).d8).u5).a ((((x.h8)).d8).u5).n ((((x.h8)).d8).u5).c)]), .bool (x.a1V)]) := by
  cases x <;> exact Pu.ok fun w => by kernel_rfl
theorem B6 {g o : Nat} : Pu Tryd.prog (xV (Instr.fieldAt 96 (.pointer (some ⟨g, o, none⟩)) 0)) (.pointer (some ⟨g, o + 0, none⟩)) := Pu.ok fun w => by kernel_rfl
theorem J1 {g o : Nat} : Pu Tryd.prog (xV (Instr.fieldAt 106 (.pointer (some ⟨g, o, none⟩)) 0)) (.pointer (some ⟨g, o + 0, none⟩)) := Pu.ok fun w => by kernel_rfl
theorem R8 (a0 : Int) (a1 : Int) : Pu Tryd.prog (xV (Instr.build 209 #[(0, (Value.int .i64 a0)), (1, (Value.int .i64 a1))])) (.agg #[(Value.int .i64 a0), (Value.int .i64 a1)]) := Pu.ok fun w => by kernel_rfl
theorem c3k (d : Nat) (a0 b0 : Int) (a1 b1 : Int) (w : World) : (Op.equalIn (d + 2) 209 (.agg #[(Value.int .i64 a0), (Value.int .i64 a1)]) (.agg #[(Value.int .i64 b0), (Value.int .i64 b1)])).run Tryd.prog w = .ok (decide (a0 = b0 ∧ a1 = b1)) w := by
  have u3 := Tryd.underlying3
  have i3 := Tryd.isAgg3
  have s3 := Tryd.sizeOf3
  have hS : Tryd.prog.underlying 209 = some (.struct (Tryd.prog.fieldsOf 209)) := by kernel_rfl
  rw [run_equalIn_agg w (d + 1) 209 _ _ hS (by kernel_rfl)]
  simp only [Program.fieldsOf, Tryd.underlying209]
  go_simp
  try simp only [b2d]
  by_cases h0 : a0 = b0
  · by_cases h1 : a1 = b1
    · simp [h0, h1]
    · simp [h0, h1]
  · simp [h0]
theorem a1m (x y : Operand) (a0 b0 : Int) (a1 b1 : Int) : Pu Tryd.prog (xBin .eql 209 x y (.agg #[(Value.int .i64 a0), (Value.int .i64 a1)]) (.agg #[(Value.int .i64 b0), (Value.int .i64 b1)])) (.bool (decide (a0 = b0 ∧ a1 = b1))) := by
  refine Pu.ok (s := do eqGuard .eql 209 x y (.agg #[(Value.int .i64 a0), (Value.int .i64 a1)]) (.agg #[(Value.int .i64 b0), (Value.int .i64 b1)]); binOp .eql 209 (.agg #[(Value.int .i64 a0), (Value.int .i64 a1)]) (.agg #[(Value.int .i64 b0), (Value.int .i64 b1)])) fun w => ?_
  rw [Sem.run_bind, run_eqGuard_agg w _ _ _ _ _ _ (by kernel_rfl), Result.andThen_ok, run_eql_struct, show (10000 : Nat) = 9998 + 2 from rfl, c3k]
  rfl
theorem b5d  : Pu Tryd.prog (xV (Instr.build 209 #[])) (.agg #[(Value.int .i64 0), (Value.int .i64 0)]) := Pu.ok fun w => by kernel_rfl
theorem t1 (a0 : Int) (a1 : Int) : Pu Tryd.prog (xV (Instr.build 213 #[(0, (Value.int .i64 a0)), (1, (Value.int .i64 a1))])) (.agg #[(Value.int .i64 a0), (Value.int .i64 a1)]) := Pu.ok fun w => by kernel_rfl
theorem c3l (d : Nat) (a0 b0 : Int) (a1 b1 : Int) (w : World) : (Op.equalIn (d + 2) 213 (.agg #[(Value.int .i64 a0), (Value.int .i64 a1)]) (.agg #[(Value.int .i64 b0), (Value.int .i64 b1)])).run Tryd.prog w = .ok (decide (a0 = b0 ∧ a1 = b1)) w := by
  have u3 := Tryd.underlying3
  have i3 := Tryd.isAgg3
  have s3 := Tryd.sizeOf3
  have hS : Tryd.prog.underlying 213 = some (.struct (Tryd.prog.fieldsOf 213)) := by kernel_rfl
  rw [run_equalIn_agg w (d + 1) 213 _ _ hS (by kernel_rfl)]
  simp only [Program.fieldsOf, Tryd.underlying213]
  go_simp
  try simp only [b2d]
  by_cases h0 : a0 = b0
  · by_cases h1 : a1 = b1
    · simp [h0, h1]
    · simp [h0, h1]
  · simp [h0]
theorem C5 (x y : Operand) (a0 b0 : Int) (a1 b1 : Int) : Pu Tryd.prog (xBin .eql 213 x y (.agg #[(Value.int .i64 a0), (Value.int .i64 a1)]) (.agg #[(Value.int .i64 b0), (Value.int .i64 b1)])) (.bool (decide (a0 = b0 ∧ a1 = b1))) := by
  refine Pu.ok (s := do eqGuard .eql 213 x y (.agg #[(Value.int .i64 a0), (Value.int .i64 a1)]) (.agg #[(Value.int .i64 b0), (Value.int .i64 b1)]); binOp .eql 213 (.agg #[(Value.int .i64 a0), (Value.int .i64 a1)]) (.agg #[(Value.int .i64 b0), (Value.int .i64 b1)])) fun w => ?_
  rw [Sem.run_bind, run_eqGuard_agg w _ _ _ _ _ _ (by kernel_rfl), Result.andThen_ok, run_eql_struct, show (10000 : Nat) = 9998 + 2 from rfl, c3l]
  rfl
theorem a5x  : Pu Tryd.prog (xV (Instr.build 213 #[])) (.agg #[(Value.int .i64 0), (Value.int .i64 0)]) := Pu.ok fun w => by kernel_rfl
theorem b9I (a0a : Option Addr) (a0n a0c : Nat) (a1a : Option Addr) (a1n a1c : Nat) (a2a : Option Addr) (a2n a2c : Nat) (a3a : Option Addr) (a3n a3c : Nat) (w : World) : (Instr.buildSlice 172 4 #[(0, (Value.slice a0a a0n a0c)), (1, (Value.slice a1a a1n a1c)), (2, (Value.slice a2a a2n a2c)), (3, (Value.slice a3a a3n a3c))]).run Tryd.prog w = .ok (.slice (some ⟨w.heap.size, 0, none⟩) 4 4) (w.alloc (.cells [(Value.slice a0a a0n a0c), (Value.slice a1a a1n a1c), (Value.slice a2a a2n a2c), (Value.slice a3a a3n a3c)].toArray 97)) := by kernel_rfl
abbrev i6 (x : o8) : List Value := [(Value.slice x.K9.a x.K9.n x.K9.c), (Value.slice x.W9.a x.W9.n x.W9.c)]
abbrev a0y (x : b7) : List Value := [(Value.int .i64 x.fnodes), (Value.int .i64 x.fdepth), (Value.int .i64 x.fe), (Value.bool x.fform), (Value.bool x.fnamed), (Value.slice x.fnames.a x.fnames.n x.fnames.c)]
end Go.Proofs.YthldnpmfelniiaaDoor
