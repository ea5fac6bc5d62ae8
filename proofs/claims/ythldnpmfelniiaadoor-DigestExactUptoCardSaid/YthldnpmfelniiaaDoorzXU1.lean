/- Single operations at this program's types, and its structures; printed by lift.py. -/
import Derived.Test.YthldnpmfelniiaaDoorProg
import Derived.Test.YthldnpmfelniiaaDoorzXS4
import Derived.KernelRfl
import Derived.Laws.StructEq
import Derived.Laws.Tables
import Derived.Laws.Cover2
namespace Go.Proofs.YthldnpmfelniiaaDoor
open Go.RowKit
set_option maxRecDepth 100000
set_option maxHeartbeats 2000000
structure k5 where
  D3 : Sl
  a0V : Sl
structure k6 where
  c6 : Int
  J6 : Int
  k9 : ByteArray
  o8 : Sl
structure k3 where
  c6 : Int
  fOp : Int
  d7 : Sl
  l9 : Sl
structure E8 where
  k9 : ByteArray
  I8 : Int
structure d9G where
  k9 : ByteArray
  g8p : Bool
structure E5 where
  k4 : k6
structure g7 where
  fnodes : Int
  fdepth : Int
  fe : Int
  fform : Bool
  fnamed : Bool
  fnames : Sl
structure b8 where
  fn : Int
  fdepth : Int
  fbad : Int
structure b7 where
  fok : Bool
  fnames : Bool
structure K3 where
  i7 : k3
structure i5 where
  c6 : Int
  k9 : ByteArray
  d7 : Sl
  i4 : Sl
  s6 : Sl
  q8 : Sl
structure J0 where
  f0 : Int
  f1 : Int
  f2 : Int
  f3 : Int
structure N8 where
  M8 : E8
structure K4 where
  c9 : i5
structure D5 where
  fexprs : Int
  fparts : Int
structure t7 where
  fexprs : Int
  fconds : Int
inductive c8 where
  | nil
  | C3 (x : E5)
  | G9 (x : K3)
  | G2 (x : N8)
  | C9 (x : K4)
def u0 : c8 → Value
  | .nil => .nilIface
  | .C3 x => .iface 96 (.agg #[(Value.int .i64 x.k4.c6), (Value.int .i64 x.k4.J6), (Value.string x.k4.k9), (Value.slice x.k4.o8.a x.k4.o8.n x.k4.o8.c)])
  | .G9 x => .iface 106 (.agg #[(Value.int .i64 x.i7.c6), (Value.int .i64 x.i7.fOp), (Value.slice x.i7.d7.a x.i7.d7.n x.i7.d7.c), (Value.slice x.i7.l9.a x.i7.l9.n x.i7.l9.c)])
  | .G2 x => .iface 175 (.agg #[(Value.string x.M8.k9), (Value.int .i64 x.M8.I8)])
  | .C9 x => .iface 177 (.agg #[(Value.int .i64 x.c9.c6), (Value.string x.c9.k9), (Value.slice x.c9.d7.a x.c9.d7.n x.c9.d7.c), (Value.slice x.c9.i4.a x.c9.i4.n x.c9.i4.c), (Value.slice x.c9.s6.a x.c9.s6.n x.c9.s6.c), (Value.slice x.c9.q8.a x.c9.q8.n x.c9.q8.c)])
theorem c2n (x : c8) : [u0 x].all (·.oneCell') = true := by cases x <;> rfl
def c8.o3 : c8 → E5
  | .C3 x => x
  | _ => (E5.mk (k6.mk 0 0 ⟨#[]⟩ (Sl.mk none 0 0)))
def c8.a8P : c8 → Bool
  | .C3 _ => true
  | _ => false
def c8.V6 : c8 → N8
  | .G2 x => x
  | _ => (N8.mk (E8.mk ⟨#[]⟩ 0))
def c8.a8Q : c8 → Bool
  | .G2 _ => true
  | _ => false
def c8.g9 : c8 → K4
  | .C9 x => x
  | _ => (K4.mk (i5.mk 0 ⟨#[]⟩ (Sl.mk none 0 0) (Sl.mk none 0 0) (Sl.mk none 0 0) (Sl.mk none 0 0)))
def c8.a8R : c8 → Bool
  | .C9 _ => true
  | _ => false
abbrev g8 (x : Int) : List Value := [(Value.int .u8 x)]
theorem a0W (x : Int) : (g8 x).length = 1 := rfl
theorem a0X (x : Int) : (g8 x).all (·.oneCell') = true := rfl
theorem d9H : Tryd.prog.info? 5 = some ((Tryd.prog.info? 5).getD default) := by kernel_rfl
theorem a7x {E : Pan} {w0 w : World} {ps : Nat → Prop} {H0 H : Hp} {Fs : List Frag} {K : Value → World → Prop} {s : Sl} {xs : List Int} {F : Frag} {t2 : Sl} {ys : List Int} {ks : List Bool} {ty : TypeId} (I : Inv w0 ps H0 H (F :: Fs) w) (hr : RowL 5 1 g8 s xs F) (hs : SrcO w g8 t2 ys) (hb : (xs.length + ys.length) * 2 ≤ 140737488355328) (h : ∀ (s' : Sl) (F' : Frag) (w' : World), RowL 5 1 g8 s' (xs ++ ys) F' → Inv w0 ps H0 H (F' :: Fs) w' → (∀ k, k < w.heap.size → (∀ p ∈ F, p.1 ≠ k) → w'.heap[k]? = w.heap[k]?) → K (.slice s'.a s'.n s'.c) w') : opK Tryd.prog E (xBuiltin .append #[40, 40] ty ks [.slice s.a s.n s.c, .slice t2.a t2.n t2.c]) w K :=
  c8U (bytes := 1) Tryd.underlying40 d9H (z := (Value.int .u8 0)) (by kernel_rfl) (by kernel_rfl) (by kernel_rfl) (by kernel_rfl) I hr hs hb h
theorem a7h (a0 : Int) (w : World) : (Instr.buildSlice 40 1 #[(0, (Value.int .u8 a0))]).run Tryd.prog w = .ok (.slice (some ⟨w.heap.size, 0, none⟩) 1 1) (w.alloc (.cells [(Value.int .u8 a0)].toArray 5)) := by kernel_rfl
theorem b8U (k : IntKind) (n : Int) : Pu Tryd.prog (xV (convert 5 41 (.int k n))) (.int .u64 (IntKind.wrap .u64 n)) := Pu.ok fun w => run_convert_int (P := Tryd.prog) (w := w) 5 41 k n (by rw [Tryd.underlying5]; rfl) Tryd.underlying41
theorem R5 {g o : Nat} : Pu Tryd.prog (xV (Instr.fieldAt 25 (.pointer (some ⟨g, o, none⟩)) 0)) (.pointer (some ⟨g, o + 0, none⟩)) := Pu.ok fun w => by kernel_rfl
theorem a9x (a : Option Addr) (n c : Nat) : Pu Tryd.prog (xBuiltin .len #[22] 3 [false] [.slice a n c]) (.int .i64 (n : Int)) := a2b Tryd.underlying22 a n c
theorem a3h {a : Option Addr} {g o : Nat} (ha : a = some ⟨g, o, none⟩) (len cap : Nat) (k : IntKind) (i : Int) (h0 : 0 ≤ i) (h1 : i < len) : Pu Tryd.prog (xV (Instr.indexAt 22 (.slice a len cap) (.int k i))) (.pointer (some ⟨g, o + i.toNat * 2, none⟩)) := a3R Tryd.underlying22 Tryd.sizeOf67 ha len cap k i h0 h1
theorem b0d {g o : Nat} : Pu Tryd.prog (xV (Instr.fieldAt 67 (.pointer (some ⟨g, o, none⟩)) 0)) (.pointer (some ⟨g, o + 0, none⟩)) := Pu.ok fun w => by kernel_rfl
theorem a6F (s : ByteArray) : Pu Tryd.prog (xBuiltin .len #[9] 3 [false] [.string s]) (.int .i64 (s.size : Int)) := c8P _ _ s Tryd.underlying9
theorem b5g (a : Option Addr) (n c : Nat) : Pu Tryd.prog (xBuiltin .len #[40] 3 [false] [.slice a n c]) (.int .i64 (n : Int)) := a2b Tryd.underlying40 a n c
theorem a4M {g o : Nat} : Pu Tryd.prog (xV (Instr.fieldAt 25 (.pointer (some ⟨g, o, none⟩)) 1)) (.pointer (some ⟨g, o + 1, none⟩)) := Pu.ok fun w => by kernel_rfl
abbrev p5 (x : E8) : List Value := [(Value.string x.k9), (Value.int .i64 x.I8)]
theorem c2o (x : E8) : (p5 x).length = 2 := rfl
theorem c2p (x : E8) : (p5 x).all (·.oneCell') = true := rfl
theorem e0P (a7y : ByteArray) (a7z : Int) (w : World) : (Instr.buildSlice 22 1 #[(0, (Value.agg #[(Value.string a7y), (Value.int .i64 a7z)]))]).run Tryd.prog w = .ok (.slice (some ⟨w.heap.size, 0, none⟩) 1 1) (w.alloc (.cells [(Value.string a7y), (Value.int .i64 a7z)].toArray 67)) := by kernel_rfl
theorem D6 (a : Option Addr) (n c : Nat) : Pu Tryd.prog (xBuiltin .len #[23] 3 [false] [.slice a n c]) (.int .i64 (n : Int)) := a2b Tryd.underlying23 a n c
theorem c7O (a7y : Int) (a7z : Int) (e4O : ByteArray) (a0_3a : Option Addr) (a0_3n a0_3c : Nat) : Pu Tryd.prog (xV (Instr.build 96 #[(0, (Value.agg #[(Value.int .i64 a7y), (Value.int .i64 a7z), (Value.string e4O), (Value.slice a0_3a a0_3n a0_3c)]))])) (.agg #[(Value.int .i64 a7y), (Value.int .i64 a7z), (Value.string e4O), (Value.slice a0_3a a0_3n a0_3c)]) := Pu.ok fun w => by kernel_rfl
theorem b4S (x : E5) : Pu Tryd.prog (xV (Instr.makeInterface 96 (.agg #[(Value.int .i64 x.k4.c6), (Value.int .i64 x.k4.J6), (Value.string x.k4.k9), (Value.slice x.k4.o8.a x.k4.o8.n x.k4.o8.c)]))) (u0 (c8.C3 x)) := Pu.ok fun w => rfl
abbrev m7 (x : c8) : List Value := [(u0 x)]
theorem N1 (x : c8) : (m7 x).length = 1 := rfl
theorem R2 (x : c8) : (m7 x).all (·.oneCell') = true := c2n x
theorem b6K (a0 : c8) (w : World) : (Instr.buildSlice 97 1 #[(0, (u0 a0))]).run Tryd.prog w = .ok (.slice (some ⟨w.heap.size, 0, none⟩) 1 1) (w.alloc (.cells [(u0 a0)].toArray 141)) := by cases a0 <;> kernel_rfl
theorem a7A {g o : Nat} : Pu Tryd.prog (xV (Instr.fieldAt 92 (.pointer (some ⟨g, o, none⟩)) 2)) (.pointer (some ⟨g, o + 2, none⟩)) := Pu.ok fun w => by kernel_rfl
theorem d3s  : Pu Tryd.prog (xV (Instr.build 99 #[])) (.agg #[(Value.int .i64 0), (Value.int .i64 0), (Value.int .i64 0)]) := Pu.ok fun w => by kernel_rfl
theorem s7 {g o : Nat} : Pu Tryd.prog (xV (Instr.fieldAt 99 (.pointer (some ⟨g, o, none⟩)) 2)) (.pointer (some ⟨g, o + 2, none⟩)) := Pu.ok fun w => by kernel_rfl
theorem b3A {g o : Nat} : Pu Tryd.prog (xV (Instr.fieldAt 99 (.pointer (some ⟨g, o, none⟩)) 0)) (.pointer (some ⟨g, o + 0, none⟩)) := Pu.ok fun w => by kernel_rfl
theorem b8V {g o : Nat} : Pu Tryd.prog (xV (Instr.fieldAt 99 (.pointer (some ⟨g, o, none⟩)) 1)) (.pointer (some ⟨g, o + 1, none⟩)) := Pu.ok fun w => by kernel_rfl
theorem R6 {g o : Nat} : Pu Tryd.prog (xV (Instr.fieldAt 30 (.pointer (some ⟨g, o, none⟩)) 3)) (.pointer (some ⟨g, o + 3, none⟩)) := Pu.ok fun w => by kernel_rfl
theorem v8 (a : Option Addr) (n c : Nat) : Pu Tryd.prog (xBuiltin .len #[28] 3 [false] [.slice a n c]) (.int .i64 (n : Int)) := a2b Tryd.underlying28 a n c
theorem a1M {a : Option Addr} {g o : Nat} (ha : a = some ⟨g, o, none⟩) (len cap : Nat) (k : IntKind) (i : Int) (h0 : 0 ≤ i) (h1 : i < len) : Pu Tryd.prog (xV (Instr.indexAt 28 (.slice a len cap) (.int k i))) (.pointer (some ⟨g, o + i.toNat * 4, none⟩)) := a3R Tryd.underlying28 Tryd.sizeOf30 ha len cap k i h0 h1
theorem c0H (a0 : Bool) (a1 : Bool) : Pu Tryd.prog (xV (Instr.build 102 #[(0, (Value.bool a0)), (1, (Value.bool a1))])) (.agg #[(Value.bool a0), (Value.bool a1)]) := Pu.ok fun w => by kernel_rfl
theorem K5 {g o : Nat} : Pu Tryd.prog (xV (Instr.fieldAt 30 (.pointer (some ⟨g, o, none⟩)) 0)) (.pointer (some ⟨g, o + 0, none⟩)) := Pu.ok fun w => by kernel_rfl
theorem a3T {g o : Nat} : Pu Tryd.prog (xV (Instr.fieldAt 30 (.pointer (some ⟨g, o, none⟩)) 2)) (.pointer (some ⟨g, o + 2, none⟩)) := Pu.ok fun w => by kernel_rfl
theorem o0 {g o : Nat} : Pu Tryd.prog (xV (Instr.fieldAt 102 (.pointer (some ⟨g, o, none⟩)) 0)) (.pointer (some ⟨g, o + 0, none⟩)) := Pu.ok fun w => by kernel_rfl
theorem b2z {g o : Nat} : Pu Tryd.prog (xV (Instr.fieldAt 102 (.pointer (some ⟨g, o, none⟩)) 1)) (.pointer (some ⟨g, o + 1, none⟩)) := Pu.ok fun w => by kernel_rfl
theorem V7 {g o : Nat} : Pu Tryd.prog (xV (Instr.fieldAt 30 (.pointer (some ⟨g, o, none⟩)) 1)) (.pointer (some ⟨g, o + 1, none⟩)) := Pu.ok fun w => by kernel_rfl
theorem c2U (a7y : Int) (a7z : Int) (a0_2a : Option Addr) (a0_2n a0_2c : Nat) (a0_3a : Option Addr) (a0_3n a0_3c : Nat) : Pu Tryd.prog (xV (Instr.build 106 #[(0, (Value.agg #[(Value.int .i64 a7y), (Value.int .i64 a7z), (Value.slice a0_2a a0_2n a0_2c), (Value.slice a0_3a a0_3n a0_3c)]))])) (.agg #[(Value.int .i64 a7y), (Value.int .i64 a7z), (Value.slice a0_2a a0_2n a0_2c), (Value.slice a0_3a a0_3n a0_3c)]) := Pu.ok fun w => by kernel_rfl
theorem c0I (x : K3) : Pu Tryd.prog (xV (Instr.makeInterface 106 (.agg #[(Value.int .i64 x.i7.c6), (Value.int .i64 x.i7.fOp), (Value.slice x.i7.d7.a x.i7.d7.n x.i7.d7.c), (Value.slice x.i7.l9.a x.i7.l9.n x.i7.l9.c)]))) (u0 (c8.G9 x)) := Pu.ok fun w => rfl
theorem R7 {g o : Nat} : Pu Tryd.prog (xV (Instr.fieldAt 33 (.pointer (some ⟨g, o, none⟩)) 2)) (.pointer (some ⟨g, o + 2, none⟩)) := Pu.ok fun w => by kernel_rfl
theorem R8 {g o : Nat} : Pu Tryd.prog (xV (Instr.fieldAt 33 (.pointer (some ⟨g, o, none⟩)) 3)) (.pointer (some ⟨g, o + 3, none⟩)) := Pu.ok fun w => by kernel_rfl
theorem H8 (a : Option Addr) (n c : Nat) : Pu Tryd.prog (xBuiltin .len #[31] 3 [false] [.slice a n c]) (.int .i64 (n : Int)) := a2b Tryd.underlying31 a n c
theorem a4N {a : Option Addr} {g o : Nat} (ha : a = some ⟨g, o, none⟩) (len cap : Nat) (k : IntKind) (i : Int) (h0 : 0 ≤ i) (h1 : i < len) : Pu Tryd.prog (xV (Instr.indexAt 31 (.slice a len cap) (.int k i))) (.pointer (some ⟨g, o + i.toNat * 4, none⟩)) := a3R Tryd.underlying31 Tryd.sizeOf33 ha len cap k i h0 h1
theorem a5X {g o : Nat} : Pu Tryd.prog (xV (Instr.fieldAt 33 (.pointer (some ⟨g, o, none⟩)) 0)) (.pointer (some ⟨g, o + 0, none⟩)) := Pu.ok fun w => by kernel_rfl
theorem Z5 {g o : Nat} : Pu Tryd.prog (xV (Instr.fieldAt 33 (.pointer (some ⟨g, o, none⟩)) 1)) (.pointer (some ⟨g, o + 1, none⟩)) := Pu.ok fun w => by kernel_rfl
theorem c7P (a0 : ByteArray) : Pu Tryd.prog (xV (Instr.build 67 #[(0, (Value.string a0))])) (.agg #[(Value.string a0), (Value.int .i64 0)]) := Pu.ok fun w => by kernel_rfl
theorem c7Q (a0a : Option Addr) (a0n a0c : Nat) : Pu Tryd.prog (xV (Instr.build 25 #[(0, (Value.slice a0a a0n a0c))])) (.agg #[(Value.slice a0a a0n a0c), (Value.slice none 0 0)]) := Pu.ok fun w => by kernel_rfl
theorem b7D {a : Option Addr} {g o : Nat} (ha : a = some ⟨g, o, none⟩) (len cap : Nat) (k : IntKind) (i : Int) (h0 : 0 ≤ i) (h1 : i < len) : Pu Tryd.prog (xV (Instr.indexAt 40 (.slice a len cap) (.int k i))) (.pointer (some ⟨g, o + i.toNat * 1, none⟩)) := a3R Tryd.underlying40 Tryd.sizeOf5 ha len cap k i h0 h1
theorem Z6 {g o : Nat} : Pu Tryd.prog (xV (Instr.fieldAt 67 (.pointer (some ⟨g, o, none⟩)) 1)) (.pointer (some ⟨g, o + 1, none⟩)) := Pu.ok fun w => by kernel_rfl
theorem a4O {a : Option Addr} {g o : Nat} (ha : a = some ⟨g, o, none⟩) (len cap : Nat) (k : IntKind) (i : Int) (h0 : 0 ≤ i) (h1 : i < len) : Pu Tryd.prog (xV (Instr.indexAt 23 (.slice a len cap) (.int k i))) (.pointer (some ⟨g, o + i.toNat * 6, none⟩)) := a3R Tryd.underlying23 Tryd.sizeOf88 ha len cap k i h0 h1
theorem B6 {g o : Nat} : Pu Tryd.prog (xV (Instr.fieldAt 88 (.pointer (some ⟨g, o, none⟩)) 0)) (.pointer (some ⟨g, o + 0, none⟩)) := Pu.ok fun w => by kernel_rfl
theorem a4P {g o : Nat} : Pu Tryd.prog (xV (Instr.fieldAt 88 (.pointer (some ⟨g, o, none⟩)) 1)) (.pointer (some ⟨g, o + 1, none⟩)) := Pu.ok fun w => by kernel_rfl
theorem R9 {g o : Nat} : Pu Tryd.prog (xV (Instr.fieldAt 88 (.pointer (some ⟨g, o, none⟩)) 2)) (.pointer (some ⟨g, o + 2, none⟩)) := Pu.ok fun w => by kernel_rfl
theorem S1 {g o : Nat} : Pu Tryd.prog (xV (Instr.fieldAt 88 (.pointer (some ⟨g, o, none⟩)) 3)) (.pointer (some ⟨g, o + 3, none⟩)) := Pu.ok fun w => by kernel_rfl
theorem V8 {g o : Nat} : Pu Tryd.prog (xV (Instr.fieldAt 88 (.pointer (some ⟨g, o, none⟩)) 4)) (.pointer (some ⟨g, o + 4, none⟩)) := Pu.ok fun w => by kernel_rfl
theorem M9 {g o : Nat} : Pu Tryd.prog (xV (Instr.fieldAt 88 (.pointer (some ⟨g, o, none⟩)) 5)) (.pointer (some ⟨g, o + 5, none⟩)) := Pu.ok fun w => by kernel_rfl
theorem b8W {g o : Nat} : Pu Tryd.prog (xV (Instr.fieldAt 92 (.pointer (some ⟨g, o, none⟩)) 1)) (.pointer (some ⟨g, o + 1, none⟩)) := Pu.ok fun w => by kernel_rfl
theorem b3B {g o : Nat} : Pu Tryd.prog (xV (Instr.fieldAt 92 (.pointer (some ⟨g, o, none⟩)) 0)) (.pointer (some ⟨g, o + 0, none⟩)) := Pu.ok fun w => by kernel_rfl
theorem b3C {g o : Nat} : Pu Tryd.prog (xV (Instr.fieldAt 92 (.pointer (some ⟨g, o, none⟩)) 5)) (.pointer (some ⟨g, o + 5, none⟩)) := Pu.ok fun w => by kernel_rfl
theorem d5P {a : Option Addr} {g o : Nat} (ha : a = some ⟨g, o, none⟩) (len cap : Nat) (k : IntKind) (i : Int) (h0 : 0 ≤ i) (h1 : i < len) : Pu Tryd.prog (xV (Instr.indexAt 47 (.slice a len cap) (.int k i))) (.pointer (some ⟨g, o + i.toNat * 1, none⟩)) := a3R Tryd.underlying47 Tryd.sizeOf9 ha len cap k i h0 h1
abbrev C2 (x : ByteArray) : List Value := [(Value.string x)]
theorem b7t (x : ByteArray) : (C2 x).length = 1 := rfl
theorem b7u (x : ByteArray) : (C2 x).all (·.oneCell') = true := rfl
theorem b8X : Pu Tryd.prog (xV (Instr.build 114 #[])) (.agg #[.int .i64 0, .int .i64 0, .int .i64 0, .int .i64 0]) := Pu.ok fun w => by kernel_rfl
theorem b2e (k : IntKind) (n : Int) : Pu Tryd.prog (xV (convert 3 5 (.int k n))) (.int .u8 (IntKind.wrap .u8 n)) := Pu.ok fun w => run_convert_int (P := Tryd.prog) (w := w) 3 5 k n (by rw [Tryd.underlying3]; rfl) Tryd.underlying5
theorem c8d (a0 : Int) (a1 : Int) (w : World) : (Instr.buildSlice 40 2 #[(0, (Value.int .u8 a0)), (1, (Value.int .u8 a1))]).run Tryd.prog w = .ok (.slice (some ⟨w.heap.size, 0, none⟩) 2 2) (w.alloc (.cells [(Value.int .u8 a0), (Value.int .u8 a1)].toArray 5)) := by kernel_rfl
theorem b8Y (k : IntKind) (n : Int) : Pu Tryd.prog (xV (convert 2 41 (.int k n))) (.int .u64 (IntKind.wrap .u64 n)) := Pu.ok fun w => run_convert_int (P := Tryd.prog) (w := w) 2 41 k n (by rw [Tryd.underlying2]; rfl) Tryd.underlying41
theorem b8Z (k : IntKind) (n : Int) : Pu Tryd.prog (xV (convert 41 5 (.int k n))) (.int .u8 (IntKind.wrap .u8 n)) := Pu.ok fun w => run_convert_int (P := Tryd.prog) (w := w) 41 5 k n (by rw [Tryd.underlying41]; rfl) Tryd.underlying5
theorem d3t {E : Pan} {w0 w : World} {ps : Nat → Prop} {H0 H : Hp} {Fs : List Frag} {K : Value → World → Prop} {s : Sl} {xs : List Int} {F : Frag} {b : ByteArray} {ks : List Bool} {ty : TypeId} (I : Inv w0 ps H0 H (F :: Fs) w) (hr : RowL 5 1 g8 s xs F) (hb : (xs.length + b.size) * 2 ≤ 140737488355328) (h : ∀ (s' : Sl) (F' : Frag) (w' : World), RowL 5 1 g8 s' (xs ++ sbytes b) F' → Inv w0 ps H0 H (F' :: Fs) w' → (∀ k, k < w.heap.size → (∀ p ∈ F, p.1 ≠ k) → w'.heap[k]? = w.heap[k]?) → K (.slice s'.a s'.n s'.c) w') : opK Tryd.prog E (xBuiltin .append #[40, 9] ty ks [.slice s.a s.n s.c, .string b]) w K :=
  d5O (bytes := 1) (fun _ => rfl) Tryd.underlying40 Tryd.underlying9 d9H (by kernel_rfl) (by kernel_rfl) (by kernel_rfl) I hr b hb h
theorem c8W (a0 a1 a2 a3 : Int) (k : IntKind) (i : Int) (h0 : 0 ≤ i) (h1 : i < 4) : Pu Tryd.prog (xV (Instr.index 114 (.agg #[.int .i64 a0, .int .i64 a1, .int .i64 a2, .int .i64 a3]) (.int k i))) (.int .i64 (([a0, a1, a2, a3] : List Int).getD i.toNat 0)) := by
  obtain rfl | rfl | rfl | rfl := (by omega : i = 0 ∨ i = 1 ∨ i = 2 ∨ i = 3)
  · exact Pu.ok fun w => by kernel_rfl
  · exact Pu.ok fun w => by kernel_rfl
  · exact Pu.ok fun w => by kernel_rfl
  · exact Pu.ok fun w => by kernel_rfl
theorem a3U (a0 a1 a2 a3 : Int) : Pu Tryd.prog (xV (Instr.build 114 #[(0, .int .i64 a0), (1, .int .i64 a1), (2, .int .i64 a2), (3, .int .i64 a3)])) (.agg #[.int .i64 a0, .int .i64 a1, .int .i64 a2, .int .i64 a3]) := Pu.ok fun w => by kernel_rfl
theorem b2T (a0 a1 : Int) : Pu Tryd.prog (xV (Instr.build 114 #[(0, .int .i64 a0), (1, .int .i64 a1)])) (.agg #[.int .i64 a0, .int .i64 a1, .int .i64 0, .int .i64 0]) := Pu.ok fun w => by kernel_rfl
theorem b9a (k : IntKind) (n : Int) : Pu Tryd.prog (xV (convert 3 41 (.int k n))) (.int .u64 (IntKind.wrap .u64 n)) := Pu.ok fun w => run_convert_int (P := Tryd.prog) (w := w) 3 41 k n (by rw [Tryd.underlying3]; rfl) Tryd.underlying41
theorem e0Q (a0 : ByteArray) (w : World) : (Instr.buildSlice 47 1 #[(0, (Value.string a0))]).run Tryd.prog w = .ok (.slice (some ⟨w.heap.size, 0, none⟩) 1 1) (w.alloc (.cells [(Value.string a0)].toArray 9)) := by kernel_rfl
theorem f9M : Tryd.prog.info? 9 = some ((Tryd.prog.info? 9).getD default) := by kernel_rfl
theorem e4P {E : Pan} {w0 w : World} {ps : Nat → Prop} {H0 H : Hp} {Fs : List Frag} {K : Value → World → Prop} {s : Sl} {xs : List ByteArray} {F : Frag} {t2 : Sl} {ys : List ByteArray} {ks : List Bool} {ty : TypeId} (I : Inv w0 ps H0 H (F :: Fs) w) (hr : RowL 9 1 C2 s xs F) (hs : SrcO w C2 t2 ys) (hb : (xs.length + ys.length) * 17 ≤ 140737488355328) (h : ∀ (s' : Sl) (F' : Frag) (w' : World), RowL 9 1 C2 s' (xs ++ ys) F' → Inv w0 ps H0 H (F' :: Fs) w' → (∀ k, k < w.heap.size → (∀ p ∈ F, p.1 ≠ k) → w'.heap[k]? = w.heap[k]?) → K (.slice s'.a s'.n s'.c) w') : opK Tryd.prog E (xBuiltin .append #[47, 47] ty ks [.slice s.a s.n s.c, .slice t2.a t2.n t2.c]) w K :=
  c8U (bytes := 16) Tryd.underlying47 f9M (z := (Value.string ⟨#[]⟩)) (by kernel_rfl) (by kernel_rfl) (by kernel_rfl) (by kernel_rfl) I hr hs hb h
abbrev d9 (x : k6) : List Value := [(Value.int .i64 x.c6), (Value.int .i64 x.J6), (Value.string x.k9), (Value.slice x.o8.a x.o8.n x.o8.c)]
abbrev d6 (x : i5) : List Value := [(Value.int .i64 x.c6), (Value.string x.k9), (Value.slice x.d7.a x.d7.n x.d7.c), (Value.slice x.i4.a x.i4.n x.i4.c), (Value.slice x.s6.a x.s6.n x.s6.c), (Value.slice x.q8.a x.q8.n x.q8.c)]
theorem d3u  : Pu Tryd.prog (xV (Instr.build 92 #[])) (.agg #[(Value.int .i64 0), (Value.int .i64 0), (Value.int .i64 0), (Value.bool false), (Value.bool false), (Value.slice none 0 0)]) := Pu.ok fun w => by kernel_rfl
theorem b2f (a : Option Addr) (n c : Nat) : Pu Tryd.prog (xBuiltin .len #[97] 3 [false] [.slice a n c]) (.int .i64 (n : Int)) := a2b Tryd.underlying97 a n c
theorem d5Q {a : Option Addr} {g o : Nat} (ha : a = some ⟨g, o, none⟩) (len cap : Nat) (k : IntKind) (i : Int) (h0 : 0 ≤ i) (h1 : i < len) : Pu Tryd.prog (xV (Instr.indexAt 97 (.slice a len cap) (.int k i))) (.pointer (some ⟨g, o + i.toNat * 1, none⟩)) := a3R Tryd.underlying97 Tryd.sizeOf141 ha len cap k i h0 h1
theorem b3D {g o : Nat} : Pu Tryd.prog (xV (Instr.fieldAt 92 (.pointer (some ⟨g, o, none⟩)) 3)) (.pointer (some ⟨g, o + 3, none⟩)) := Pu.ok fun w => by kernel_rfl
theorem b3E {g o : Nat} : Pu Tryd.prog (xV (Instr.fieldAt 92 (.pointer (some ⟨g, o, none⟩)) 4)) (.pointer (some ⟨g, o + 4, none⟩)) := Pu.ok fun w => by kernel_rfl
theorem c2V (a0a : Option Addr) (a0n a0c : Nat) (a1a : Option Addr) (a1n a1c : Nat) (w : World) : (Instr.buildSlice 172 2 #[(0, (Value.slice a0a a0n a0c)), (1, (Value.slice a1a a1n a1c))]).run Tryd.prog w = .ok (.slice (some ⟨w.heap.size, 0, none⟩) 2 2) (w.alloc (.cells [(Value.slice a0a a0n a0c), (Value.slice a1a a1n a1c)].toArray 97)) := by kernel_rfl
theorem a5t (s : ByteArray) (k : IntKind) (i : Int) (h0 : 0 ≤ i) (h1 : i < s.size) : Pu Tryd.prog (xV (Instr.index 9 (.string s) (.int k i))) (.int .u8 ((s.get! i.toNat).toNat : Int)) := c2O _ s k i Tryd.underlying9 h0 h1
theorem c8X {g o : Nat} (k : IntKind) (i : Int) (h0 : 0 ≤ i) (h1 : i < 4) : Pu Tryd.prog (xV (Instr.indexAt 114 (.pointer (some ⟨g, o, none⟩)) (.int k i))) (.pointer (some ⟨g, o + i.toNat * 1, none⟩)) := c7M Tryd.underlying114 Tryd.sizeOf3 k i h0 h1
abbrev f5 (x : k3) : List Value := [(Value.int .i64 x.c6), (Value.int .i64 x.fOp), (Value.slice x.d7.a x.d7.n x.d7.c), (Value.slice x.l9.a x.l9.n x.l9.c)]
theorem b9b (a : Option Addr) (n c : Nat) : Pu Tryd.prog (xBuiltin .len #[172] 3 [false] [.slice a n c]) (.int .i64 (n : Int)) := a2b Tryd.underlying172 a n c
theorem c2a {a : Option Addr} {g o : Nat} (ha : a = some ⟨g, o, none⟩) (len cap : Nat) (k : IntKind) (i : Int) (h0 : 0 ≤ i) (h1 : i < len) : Pu Tryd.prog (xV (Instr.indexAt 172 (.slice a len cap) (.int k i))) (.pointer (some ⟨g, o + i.toNat * 1, none⟩)) := a3R Tryd.underlying172 Tryd.sizeOf97 ha len cap k i h0 h1
theorem d3v (s : ByteArray) : Pu Tryd.prog (xV (Instr.makeInterface 9 (.string s))) (.iface 9 (.string s)) := Pu.ok fun w => by kernel_rfl
theorem c8e : Tryd.prog.info? 141 = some ((Tryd.prog.info? 141).getD default) := by kernel_rfl
theorem b5h {E : Pan} {w0 w : World} {ps : Nat → Prop} {H0 H : Hp} {Fs : List Frag} {K : Value → World → Prop} {s : Sl} {xs : List c8} {F : Frag} {t2 : Sl} {ys : List c8} {ks : List Bool} {ty : TypeId} (I : Inv w0 ps H0 H (F :: Fs) w) (hr : RowL 141 1 m7 s xs F) (hs : SrcO w m7 t2 ys) (hb : (xs.length + ys.length) * 17 ≤ 140737488355328) (h : ∀ (s' : Sl) (F' : Frag) (w' : World), RowL 141 1 m7 s' (xs ++ ys) F' → Inv w0 ps H0 H (F' :: Fs) w' → (∀ k, k < w.heap.size → (∀ p ∈ F, p.1 ≠ k) → w'.heap[k]? = w.heap[k]?) → K (.slice s'.a s'.n s'.c) w') : opK Tryd.prog E (xBuiltin .append #[97, 97] ty ks [.slice s.a s.n s.c, .slice t2.a t2.n t2.c]) w K :=
  c8U (bytes := 16) Tryd.underlying97 c8e (z := Value.nilIface) (by kernel_rfl) (by kernel_rfl) (by kernel_rfl) (by kernel_rfl) I hr hs hb h
theorem c2W (a7y : ByteArray) (a7z : Int) : Pu Tryd.prog (xV (Instr.build 175 #[(0, (Value.agg #[(Value.string a7y), (Value.int .i64 a7z)]))])) (.agg #[(Value.string a7y), (Value.int .i64 a7z)]) := Pu.ok fun w => by kernel_rfl
theorem c0J (x : N8) : Pu Tryd.prog (xV (Instr.makeInterface 175 (.agg #[(Value.string x.M8.k9), (Value.int .i64 x.M8.I8)]))) (u0 (c8.G2 x)) := Pu.ok fun w => rfl
theorem c2X (a7y : Int) (a7z : ByteArray) (a0_2a : Option Addr) (a0_2n a0_2c : Nat) (a0_3a : Option Addr) (a0_3n a0_3c : Nat) (a0_4a : Option Addr) (a0_4n a0_4c : Nat) (a0_5a : Option Addr) (a0_5n a0_5c : Nat) : Pu Tryd.prog (xV (Instr.build 177 #[(0, (Value.agg #[(Value.int .i64 a7y), (Value.string a7z), (Value.slice a0_2a a0_2n a0_2c), (Value.slice a0_3a a0_3n a0_3c), (Value.slice a0_4a a0_4n a0_4c), (Value.slice a0_5a a0_5n a0_5c)]))])) (.agg #[(Value.int .i64 a7y), (Value.string a7z), (Value.slice a0_2a a0_2n a0_2c), (Value.slice a0_3a a0_3n a0_3c), (Value.slice a0_4a a0_4n a0_4c), (Value.slice a0_5a a0_5n a0_5c)]) := Pu.ok fun w => by kernel_rfl
theorem c0K (x : K4) : Pu Tryd.prog (xV (Instr.makeInterface 177 (.agg #[(Value.int .i64 x.c9.c6), (Value.string x.c9.k9), (Value.slice x.c9.d7.a x.c9.d7.n x.c9.d7.c), (Value.slice x.c9.i4.a x.c9.i4.n x.c9.i4.c), (Value.slice x.c9.s6.a x.c9.s6.n x.c9.s6.c), (Value.slice x.c9.q8.a x.c9.q8.n x.c9.q8.c)]))) (u0 (c8.C9 x)) := Pu.ok fun w => rfl
theorem c2q (x : c8) : Pu Tryd.prog (xV (Instr.typeAssert (u0 x) 141 175 true)) (.tuple #[(Value.agg #[(Value.string ((((x.V6)).M8).k9)), (Value.int .i64 ((((x.V6)).M8).I8))]), .bool (x.a8Q)]) := by
  cases x <;> exact Pu.ok fun w => by kernel_rfl
theorem a6s {g o : Nat} : Pu Tryd.prog (xV (Instr.fieldAt 175 (.pointer (some ⟨g, o, none⟩)) 0)) (.pointer (some ⟨g, o + 0, none⟩)) := Pu.ok fun w => by kernel_rfl
theorem c2r (x : c8) : Pu Tryd.prog (xV (Instr.typeAssert (u0 x) 141 177 true)) (.tuple #[(Value.agg #[(Value.int .i64 ((((x.g9)).c9).c6)), (Value.string ((((x.g9)).c9).k9)), (Value.slice ((((x.g9)).c9).d7).a ((((x.g9)).c9).d7).n ((((x.g9)).c9).d7).c), (Value.slice ((((x.g9)).c9).i4).a ((((x.g9)).c9).i4).n ((((x.g9)).c9).i4).c), (Value.slice ((((x.g9)).c9).s6).a ((((x.g9)).c9).s6).n ((((x.g9)).c9).s6).c), (Value.slice ((((x.g9)).c9).q8).a ((((x.g9)).c9).q8).n ((((x.g9)).c9).q8).c)]), .bool (x.a8R)]) := by
  cases x <;> exact Pu.ok fun w => by kernel_rfl
theorem D1 {g o : Nat} : Pu Tryd.prog (xV (Instr.fieldAt 177 (.pointer (some ⟨g, o, none⟩)) 0)) (.pointer (some ⟨g, o + 0, none⟩)) := Pu.ok fun w => by kernel_rfl
theorem c2Y (x : c8) : Pu Tryd.prog (xV (Instr.typeAssert (u0 x) 141 96 true)) (.tuple #[(Value.agg #[(Value.int .i64 ((((x.o3)).k4).c6)), (Value.int .i64 ((((x.o3)).k4).J6)), (Value.string ((((x.o3)).k4).k9)), (Value.slice ((((x.o3)).k4).o8).a ((((x.o3)).k4).o8).n ((((x.o3)).k4).o8).c)]), .bool (x.a8P)]) := by
  cases x <;> exact Pu.ok fun w => by kernel_rfl
theorem K6 {g o : Nat} : Pu Tryd.prog (xV (Instr.fieldAt 96 (.pointer (some ⟨g, o, none⟩)) 0)) (.pointer (some ⟨g, o + 0, none⟩)) := Pu.ok fun w => by kernel_rfl
theorem b5i (k : IntKind) (n : Int) : Pu Tryd.prog (xV (convert 5 3 (.int k n))) (.int .i64 (IntKind.wrap .i64 n)) := Pu.ok fun w => run_convert_int (P := Tryd.prog) (w := w) 5 3 k n (by rw [Tryd.underlying5]; rfl) Tryd.underlying3
theorem Y8 {g o : Nat} : Pu Tryd.prog (xV (Instr.fieldAt 106 (.pointer (some ⟨g, o, none⟩)) 0)) (.pointer (some ⟨g, o + 0, none⟩)) := Pu.ok fun w => by kernel_rfl
theorem a3f (a0 : Int) (a1 : Int) : Pu Tryd.prog (xV (Instr.build 209 #[(0, (Value.int .i64 a0)), (1, (Value.int .i64 a1))])) (.agg #[(Value.int .i64 a0), (Value.int .i64 a1)]) := Pu.ok fun w => by kernel_rfl
theorem e0R (d : Nat) (a0 b0 : Int) (a1 b1 : Int) (w : World) : (Op.equalIn (d + 2) 209 (.agg #[(Value.int .i64 a0), (Value.int .i64 a1)]) (.agg #[(Value.int .i64 b0), (Value.int .i64 b1)])).run Tryd.prog w = .ok (decide (a0 = b0 ∧ a1 = b1)) w := by
  have u3 := Tryd.underlying3
  have i3 := Tryd.isAgg3
  have s3 := Tryd.sizeOf3
  have hS : Tryd.prog.underlying 209 = some (.struct (Tryd.prog.fieldsOf 209)) := by kernel_rfl
  rw [run_equalIn_agg w (d + 1) 209 _ _ hS (by kernel_rfl)]
  simp only [Program.fieldsOf, Tryd.underlying209]
  go_simp
  try simp only [c2P]
  by_cases h0 : a0 = b0
  · by_cases h1 : a1 = b1
    · simp [h0, h1]
    · simp [h0, h1]
  · simp [h0]
theorem a7i (x y : Operand) (a0 b0 : Int) (a1 b1 : Int) : Pu Tryd.prog (xBin .eql 209 x y (.agg #[(Value.int .i64 a0), (Value.int .i64 a1)]) (.agg #[(Value.int .i64 b0), (Value.int .i64 b1)])) (.bool (decide (a0 = b0 ∧ a1 = b1))) := by
  refine Pu.ok (s := do eqGuard .eql 209 x y (.agg #[(Value.int .i64 a0), (Value.int .i64 a1)]) (.agg #[(Value.int .i64 b0), (Value.int .i64 b1)]); binOp .eql 209 (.agg #[(Value.int .i64 a0), (Value.int .i64 a1)]) (.agg #[(Value.int .i64 b0), (Value.int .i64 b1)])) fun w => ?_
  rw [Sem.run_bind, run_eqGuard_agg w _ _ _ _ _ _ (by kernel_rfl), Result.andThen_ok, run_eql_struct, show (10000 : Nat) = 9998 + 2 from rfl, e0R]
  rfl
theorem c8Y  : Pu Tryd.prog (xV (Instr.build 209 #[])) (.agg #[(Value.int .i64 0), (Value.int .i64 0)]) := Pu.ok fun w => by kernel_rfl
theorem C5 (a0 : Int) (a1 : Int) : Pu Tryd.prog (xV (Instr.build 213 #[(0, (Value.int .i64 a0)), (1, (Value.int .i64 a1))])) (.agg #[(Value.int .i64 a0), (Value.int .i64 a1)]) := Pu.ok fun w => by kernel_rfl
theorem e0S (d : Nat) (a0 b0 : Int) (a1 b1 : Int) (w : World) : (Op.equalIn (d + 2) 213 (.agg #[(Value.int .i64 a0), (Value.int .i64 a1)]) (.agg #[(Value.int .i64 b0), (Value.int .i64 b1)])).run Tryd.prog w = .ok (decide (a0 = b0 ∧ a1 = b1)) w := by
  have u3 := Tryd.underlying3
  have i3 := Tryd.isAgg3
  have s3 := Tryd.sizeOf3
  have hS : Tryd.prog.underlying 213 = some (.struct (Tryd.prog.fieldsOf 213)) := by kernel_rfl
  rw [run_equalIn_agg w (d + 1) 213 _ _ hS (by kernel_rfl)]
  simp only [Program.fieldsOf, Tryd.underlying213]
  go_simp
  try simp only [c2P]
  by_cases h0 : a0 = b0
  · by_cases h1 : a1 = b1
    · simp [h0, h1]
    · simp [h0, h1]
  · simp [h0]
theorem M7 (x y : Operand) (a0 b0 : Int) (a1 b1 : Int) : Pu Tryd.prog (xBin .eql 213 x y (.agg #[(Value.int .i64 a0), (Value.int .i64 a1)]) (.agg #[(Value.int .i64 b0), (Value.int .i64 b1)])) (.bool (decide (a0 = b0 ∧ a1 = b1))) := by
  refine Pu.ok (s := do eqGuard .eql 213 x y (.agg #[(Value.int .i64 a0), (Value.int .i64 a1)]) (.agg #[(Value.int .i64 b0), (Value.int .i64 b1)]); binOp .eql 213 (.agg #[(Value.int .i64 a0), (Value.int .i64 a1)]) (.agg #[(Value.int .i64 b0), (Value.int .i64 b1)])) fun w => ?_
  rw [Sem.run_bind, run_eqGuard_agg w _ _ _ _ _ _ (by kernel_rfl), Result.andThen_ok, run_eql_struct, show (10000 : Nat) = 9998 + 2 from rfl, e0S]
  rfl
theorem b3F  : Pu Tryd.prog (xV (Instr.build 213 #[])) (.agg #[(Value.int .i64 0), (Value.int .i64 0)]) := Pu.ok fun w => by kernel_rfl
theorem d5R (a0a : Option Addr) (a0n a0c : Nat) (a1a : Option Addr) (a1n a1c : Nat) (a2a : Option Addr) (a2n a2c : Nat) (a3a : Option Addr) (a3n a3c : Nat) (w : World) : (Instr.buildSlice 172 4 #[(0, (Value.slice a0a a0n a0c)), (1, (Value.slice a1a a1n a1c)), (2, (Value.slice a2a a2n a2c)), (3, (Value.slice a3a a3n a3c))]).run Tryd.prog w = .ok (.slice (some ⟨w.heap.size, 0, none⟩) 4 4) (w.alloc (.cells [(Value.slice a0a a0n a0c), (Value.slice a1a a1n a1c), (Value.slice a2a a2n a2c), (Value.slice a3a a3n a3c)].toArray 97)) := by kernel_rfl
abbrev f9 (x : k5) : List Value := [(Value.slice x.D3.a x.D3.n x.D3.c), (Value.slice x.a0V.a x.a0V.n x.a0V.c)]
abbrev a5Y (x : g7) : List Value := [(Value.int .i64 x.fnodes), (Value.int .i64 x.fdepth), (Value.int .i64 x.fe), (Value.bool x.fform), (Value.bool x.fnamed), (Value.slice x.fnames.a x.fnames.n x.fnames.c)]
abbrev d5 (x : b8) : List Value := [(Value.int .i64 x.fn), (Value.int .i64 x.fdepth), (Value.int .i64 x.fbad)]
abbrev f4 (x : b7) : List Value := [(Value.bool x.fok), (Value.bool x.fnames)]
end Go.Proofs.YthldnpmfelniiaaDoor
