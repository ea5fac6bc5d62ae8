/- Single operations at this program's types, and its structures; printed by lift.py. -/
import Derived.Test.YthldnpmfelniiaaDoorProg
import Derived.Test.YthldnpmfelniiaaDoorzLS4
import Derived.KernelRfl
import Derived.Laws.StructEq
import Derived.Laws.Tables
import Derived.Laws.Cover2
namespace Go.Proofs.YthldnpmfelniiaaDoor
open Go.RowKit
set_option maxRecDepth 100000
set_option maxHeartbeats 2000000
structure i5 where
  R6 : Sl
  a3F : Sl
structure i6 where
  c7 : Int
  W2 : Int
  g8 : ByteArray
  p6 : Sl
structure i7 where
  c7 : Int
  fOp : Int
  b9 : Sl
  j9 : Sl
structure z6 where
  g8 : ByteArray
  S1 : Int
structure a8 where
  g8 : ByteArray
  d8b : Bool
structure u7 where
  f4 : i6
structure b8 where
  fnodes : Int
  fdepth : Int
  fe : Int
  fform : Bool
  fnamed : Bool
  fnames : Sl
structure a9I where
  fn : Int
  fdepth : Int
  fbad : Int
structure a9J where
  fok : Bool
  fnames : Bool
structure B1 where
  d8 : i7
structure i8 where
  c7 : Int
  g8 : ByteArray
  b9 : Sl
  g6 : Sl
  w3 : Sl
  t1 : Sl
structure X1 where
  f0 : Int
  f1 : Int
  f2 : Int
  f3 : Int
structure D9 where
  C7 : z6
structure B2 where
  b5 : i8
structure u4 where
  fexprs : Int
  fparts : Int
structure k9 where
  fexprs : Int
  fconds : Int
inductive b4 where
  | nil
  | s6 (x : u7)
  | z2 (x : B1)
  | w9 (x : D9)
  | t7 (x : B2)
def l8 : b4 → Value
  | .nil => .nilIface
  | .s6 x => .iface 96 (.agg #[(Value.int .i64 x.f4.c7), (Value.int .i64 x.f4.W2), (Value.string x.f4.g8), (Value.slice x.f4.p6.a x.f4.p6.n x.f4.p6.c)])
  | .z2 x => .iface 106 (.agg #[(Value.int .i64 x.d8.c7), (Value.int .i64 x.d8.fOp), (Value.slice x.d8.b9.a x.d8.b9.n x.d8.b9.c), (Value.slice x.d8.j9.a x.d8.j9.n x.d8.j9.c)])
  | .w9 x => .iface 175 (.agg #[(Value.string x.C7.g8), (Value.int .i64 x.C7.S1)])
  | .t7 x => .iface 177 (.agg #[(Value.int .i64 x.b5.c7), (Value.string x.b5.g8), (Value.slice x.b5.b9.a x.b5.b9.n x.b5.b9.c), (Value.slice x.b5.g6.a x.b5.g6.n x.b5.g6.c), (Value.slice x.b5.w3.a x.b5.w3.n x.b5.w3.c), (Value.slice x.b5.t1.a x.b5.t1.n x.b5.t1.c)])
theorem b2V (x : b4) : [l8 x].all (·.oneCell') = true := by cases x <;> rfl
def b4.h7 : b4 → u7
  | .s6 x => x
  | _ => (u7.mk (i6.mk 0 0 ⟨#[]⟩ (Sl.mk none 0 0)))
def b4.a3j : b4 → Bool
  | .s6 _ => true
  | _ => false
def b4.H9 : b4 → D9
  | .w9 x => x
  | _ => (D9.mk (z6.mk ⟨#[]⟩ 0))
def b4.a3k : b4 → Bool
  | .w9 _ => true
  | _ => false
def b4.c6 : b4 → B2
  | .t7 x => x
  | _ => (B2.mk (i8.mk 0 ⟨#[]⟩ (Sl.mk none 0 0) (Sl.mk none 0 0) (Sl.mk none 0 0) (Sl.mk none 0 0)))
def b4.a3l : b4 → Bool
  | .t7 _ => true
  | _ => false
abbrev i4 (x : Int) : List Value := [(Value.int .u8 x)]
theorem a2B (x : Int) : (i4 x).length = 1 := rfl
theorem a2C (x : Int) : (i4 x).all (·.oneCell') = true := rfl
theorem c4T : Tryd.prog.info? 5 = some ((Tryd.prog.info? 5).getD default) := by kernel_rfl
theorem b0B {E : Pan} {w0 w : World} {ps : Nat → Prop} {H0 H : Hp} {Fs : List Frag} {K : Value → World → Prop} {s : Sl} {xs : List Int} {F : Frag} {t2 : Sl} {ys : List Int} {ks : List Bool} {ty : TypeId} (I : Inv w0 ps H0 H (F :: Fs) w) (hr : RowL 5 1 i4 s xs F) (hs : SrcO w i4 t2 ys) (hb : (xs.length + ys.length) * 2 ≤ 140737488355328) (h : ∀ (s' : Sl) (F' : Frag) (w' : World), RowL 5 1 i4 s' (xs ++ ys) F' → Inv w0 ps H0 H (F' :: Fs) w' → (∀ k, k < w.heap.size → (∀ p ∈ F, p.1 ≠ k) → w'.heap[k]? = w.heap[k]?) → K (.slice s'.a s'.n s'.c) w') : opK Tryd.prog E (xBuiltin .append #[40, 40] ty ks [.slice s.a s.n s.c, .slice t2.a t2.n t2.c]) w K :=
  b3a (bytes := 1) Tryd.underlying40 c4T (z := (Value.int .u8 0)) (by kernel_rfl) (by kernel_rfl) (by kernel_rfl) (by kernel_rfl) I hr hs hb h
theorem a8R (a0 : Int) (w : World) : (Instr.buildSlice 40 1 #[(0, (Value.int .u8 a0))]).run Tryd.prog w = .ok (.slice (some ⟨w.heap.size, 0, none⟩) 1 1) (w.alloc (.cells [(Value.int .u8 a0)].toArray 5)) := by kernel_rfl
theorem b7p (k : IntKind) (n : Int) : Pu Tryd.prog (xV (convert 5 41 (.int k n))) (.int .u64 (IntKind.wrap .u64 n)) := Pu.ok fun w => run_convert_int (P := Tryd.prog) (w := w) 5 41 k n (by rw [Tryd.underlying5]; rfl) Tryd.underlying41
theorem a4j {g o : Nat} : Pu Tryd.prog (xV (Instr.fieldAt 25 (.pointer (some ⟨g, o, none⟩)) 0)) (.pointer (some ⟨g, o + 0, none⟩)) := Pu.ok fun w => by kernel_rfl
theorem a7O (a : Option Addr) (n c : Nat) : Pu Tryd.prog (xBuiltin .len #[22] 3 [false] [.slice a n c]) (.int .i64 (n : Int)) := M7 Tryd.underlying22 a n c
theorem a9K {a : Option Addr} {g o : Nat} (ha : a = some ⟨g, o, none⟩) (len cap : Nat) (k : IntKind) (i : Int) (h0 : 0 ≤ i) (h1 : i < len) : Pu Tryd.prog (xV (Instr.indexAt 22 (.slice a len cap) (.int k i))) (.pointer (some ⟨g, o + i.toNat * 2, none⟩)) := T2 Tryd.underlying22 Tryd.sizeOf67 ha len cap k i h0 h1
theorem a6H {g o : Nat} : Pu Tryd.prog (xV (Instr.fieldAt 67 (.pointer (some ⟨g, o, none⟩)) 0)) (.pointer (some ⟨g, o + 0, none⟩)) := Pu.ok fun w => by kernel_rfl
theorem b3M (s : ByteArray) : Pu Tryd.prog (xBuiltin .len #[9] 3 [false] [.string s]) (.int .i64 (s.size : Int)) := b7j _ _ s Tryd.underlying9
theorem c0q (a : Option Addr) (n c : Nat) : Pu Tryd.prog (xBuiltin .len #[68] 3 [false] [.slice a n c]) (.int .i64 (n : Int)) := M7 Tryd.underlying68 a n c
theorem c2h {a : Option Addr} {g o : Nat} (ha : a = some ⟨g, o, none⟩) (len cap : Nat) (k : IntKind) (i : Int) (h0 : 0 ≤ i) (h1 : i < len) : Pu Tryd.prog (xV (Instr.indexAt 68 (.slice a len cap) (.int k i))) (.pointer (some ⟨g, o + i.toNat * 2, none⟩)) := T2 Tryd.underlying68 Tryd.sizeOf71 ha len cap k i h0 h1
theorem b7q {g o : Nat} : Pu Tryd.prog (xV (Instr.fieldAt 71 (.pointer (some ⟨g, o, none⟩)) 0)) (.pointer (some ⟨g, o + 0, none⟩)) := Pu.ok fun w => by kernel_rfl
theorem a3L (a : Option Addr) (n c : Nat) : Pu Tryd.prog (xBuiltin .len #[40] 3 [false] [.slice a n c]) (.int .i64 (n : Int)) := M7 Tryd.underlying40 a n c
theorem a6I {g o : Nat} : Pu Tryd.prog (xV (Instr.fieldAt 25 (.pointer (some ⟨g, o, none⟩)) 1)) (.pointer (some ⟨g, o + 1, none⟩)) := Pu.ok fun w => by kernel_rfl
abbrev j8 (x : z6) : List Value := [(Value.string x.g8), (Value.int .i64 x.S1)]
theorem b2W (x : z6) : (j8 x).length = 2 := rfl
theorem b2X (x : z6) : (j8 x).all (·.oneCell') = true := rfl
theorem c5N (a0T : ByteArray) (a0U : Int) (w : World) : (Instr.buildSlice 22 1 #[(0, (Value.agg #[(Value.string a0T), (Value.int .i64 a0U)]))]).run Tryd.prog w = .ok (.slice (some ⟨w.heap.size, 0, none⟩) 1 1) (w.alloc (.cells [(Value.string a0T), (Value.int .i64 a0U)].toArray 67)) := by kernel_rfl
theorem U4 (a : Option Addr) (n c : Nat) : Pu Tryd.prog (xBuiltin .len #[23] 3 [false] [.slice a n c]) (.int .i64 (n : Int)) := M7 Tryd.underlying23 a n c
theorem b6w (a0T : Int) (a0U : Int) (c8g : ByteArray) (a0_3a : Option Addr) (a0_3n a0_3c : Nat) : Pu Tryd.prog (xV (Instr.build 96 #[(0, (Value.agg #[(Value.int .i64 a0T), (Value.int .i64 a0U), (Value.string c8g), (Value.slice a0_3a a0_3n a0_3c)]))])) (.agg #[(Value.int .i64 a0T), (Value.int .i64 a0U), (Value.string c8g), (Value.slice a0_3a a0_3n a0_3c)]) := Pu.ok fun w => by kernel_rfl
theorem a7z (x : u7) : Pu Tryd.prog (xV (Instr.makeInterface 96 (.agg #[(Value.int .i64 x.f4.c7), (Value.int .i64 x.f4.W2), (Value.string x.f4.g8), (Value.slice x.f4.p6.a x.f4.p6.n x.f4.p6.c)]))) (l8 (b4.s6 x)) := Pu.ok fun w => rfl
abbrev g9 (x : b4) : List Value := [(l8 x)]
theorem C9 (x : b4) : (g9 x).length = 1 := rfl
theorem G5 (x : b4) : (g9 x).all (·.oneCell') = true := b2V x
theorem a8S (a0 : b4) (w : World) : (Instr.buildSlice 97 1 #[(0, (l8 a0))]).run Tryd.prog w = .ok (.slice (some ⟨w.heap.size, 0, none⟩) 1 1) (w.alloc (.cells [(l8 a0)].toArray 141)) := by cases a0 <;> kernel_rfl
theorem a0k {g o : Nat} : Pu Tryd.prog (xV (Instr.fieldAt 92 (.pointer (some ⟨g, o, none⟩)) 2)) (.pointer (some ⟨g, o + 2, none⟩)) := Pu.ok fun w => by kernel_rfl
theorem a1g {g o : Nat} : Pu Tryd.prog (xV (Instr.fieldAt 30 (.pointer (some ⟨g, o, none⟩)) 3)) (.pointer (some ⟨g, o + 3, none⟩)) := Pu.ok fun w => by kernel_rfl
theorem M0 (a : Option Addr) (n c : Nat) : Pu Tryd.prog (xBuiltin .len #[28] 3 [false] [.slice a n c]) (.int .i64 (n : Int)) := M7 Tryd.underlying28 a n c
theorem a1T {a : Option Addr} {g o : Nat} (ha : a = some ⟨g, o, none⟩) (len cap : Nat) (k : IntKind) (i : Int) (h0 : 0 ≤ i) (h1 : i < len) : Pu Tryd.prog (xV (Instr.indexAt 28 (.slice a len cap) (.int k i))) (.pointer (some ⟨g, o + i.toNat * 4, none⟩)) := T2 Tryd.underlying28 Tryd.sizeOf30 ha len cap k i h0 h1
theorem K2 {g o : Nat} : Pu Tryd.prog (xV (Instr.fieldAt 30 (.pointer (some ⟨g, o, none⟩)) 0)) (.pointer (some ⟨g, o + 0, none⟩)) := Pu.ok fun w => by kernel_rfl
theorem a0l {g o : Nat} : Pu Tryd.prog (xV (Instr.fieldAt 30 (.pointer (some ⟨g, o, none⟩)) 2)) (.pointer (some ⟨g, o + 2, none⟩)) := Pu.ok fun w => by kernel_rfl
theorem a2D {g o : Nat} : Pu Tryd.prog (xV (Instr.fieldAt 30 (.pointer (some ⟨g, o, none⟩)) 1)) (.pointer (some ⟨g, o + 1, none⟩)) := Pu.ok fun w => by kernel_rfl
theorem b3N (a0T : Int) (a0U : Int) (a0_2a : Option Addr) (a0_2n a0_2c : Nat) (a0_3a : Option Addr) (a0_3n a0_3c : Nat) : Pu Tryd.prog (xV (Instr.build 106 #[(0, (Value.agg #[(Value.int .i64 a0T), (Value.int .i64 a0U), (Value.slice a0_2a a0_2n a0_2c), (Value.slice a0_3a a0_3n a0_3c)]))])) (.agg #[(Value.int .i64 a0T), (Value.int .i64 a0U), (Value.slice a0_2a a0_2n a0_2c), (Value.slice a0_3a a0_3n a0_3c)]) := Pu.ok fun w => by kernel_rfl
theorem b1J (x : B1) : Pu Tryd.prog (xV (Instr.makeInterface 106 (.agg #[(Value.int .i64 x.d8.c7), (Value.int .i64 x.d8.fOp), (Value.slice x.d8.b9.a x.d8.b9.n x.d8.b9.c), (Value.slice x.d8.j9.a x.d8.j9.n x.d8.j9.c)]))) (l8 (b4.z2 x)) := Pu.ok fun w => rfl
theorem a1h {g o : Nat} : Pu Tryd.prog (xV (Instr.fieldAt 33 (.pointer (some ⟨g, o, none⟩)) 2)) (.pointer (some ⟨g, o + 2, none⟩)) := Pu.ok fun w => by kernel_rfl
theorem a1i {g o : Nat} : Pu Tryd.prog (xV (Instr.fieldAt 33 (.pointer (some ⟨g, o, none⟩)) 3)) (.pointer (some ⟨g, o + 3, none⟩)) := Pu.ok fun w => by kernel_rfl
theorem X3 (a : Option Addr) (n c : Nat) : Pu Tryd.prog (xBuiltin .len #[31] 3 [false] [.slice a n c]) (.int .i64 (n : Int)) := M7 Tryd.underlying31 a n c
theorem a4K {a : Option Addr} {g o : Nat} (ha : a = some ⟨g, o, none⟩) (len cap : Nat) (k : IntKind) (i : Int) (h0 : 0 ≤ i) (h1 : i < len) : Pu Tryd.prog (xV (Instr.indexAt 31 (.slice a len cap) (.int k i))) (.pointer (some ⟨g, o + i.toNat * 4, none⟩)) := T2 Tryd.underlying31 Tryd.sizeOf33 ha len cap k i h0 h1
theorem a6J {g o : Nat} : Pu Tryd.prog (xV (Instr.fieldAt 33 (.pointer (some ⟨g, o, none⟩)) 0)) (.pointer (some ⟨g, o + 0, none⟩)) := Pu.ok fun w => by kernel_rfl
theorem a1j {g o : Nat} : Pu Tryd.prog (xV (Instr.fieldAt 33 (.pointer (some ⟨g, o, none⟩)) 1)) (.pointer (some ⟨g, o + 1, none⟩)) := Pu.ok fun w => by kernel_rfl
theorem b6x (a0 : ByteArray) : Pu Tryd.prog (xV (Instr.build 67 #[(0, (Value.string a0))])) (.agg #[(Value.string a0), (Value.int .i64 0)]) := Pu.ok fun w => by kernel_rfl
theorem b6y (a0a : Option Addr) (a0n a0c : Nat) : Pu Tryd.prog (xV (Instr.build 25 #[(0, (Value.slice a0a a0n a0c))])) (.agg #[(Value.slice a0a a0n a0c), (Value.slice none 0 0)]) := Pu.ok fun w => by kernel_rfl
theorem b3O {a : Option Addr} {g o : Nat} (ha : a = some ⟨g, o, none⟩) (len cap : Nat) (k : IntKind) (i : Int) (h0 : 0 ≤ i) (h1 : i < len) : Pu Tryd.prog (xV (Instr.indexAt 40 (.slice a len cap) (.int k i))) (.pointer (some ⟨g, o + i.toNat * 1, none⟩)) := T2 Tryd.underlying40 Tryd.sizeOf5 ha len cap k i h0 h1
theorem a2E {g o : Nat} : Pu Tryd.prog (xV (Instr.fieldAt 67 (.pointer (some ⟨g, o, none⟩)) 1)) (.pointer (some ⟨g, o + 1, none⟩)) := Pu.ok fun w => by kernel_rfl
theorem a9L {a : Option Addr} {g o : Nat} (ha : a = some ⟨g, o, none⟩) (len cap : Nat) (k : IntKind) (i : Int) (h0 : 0 ≤ i) (h1 : i < len) : Pu Tryd.prog (xV (Instr.indexAt 23 (.slice a len cap) (.int k i))) (.pointer (some ⟨g, o + i.toNat * 6, none⟩)) := T2 Tryd.underlying23 Tryd.sizeOf88 ha len cap k i h0 h1
theorem M9 {g o : Nat} : Pu Tryd.prog (xV (Instr.fieldAt 88 (.pointer (some ⟨g, o, none⟩)) 0)) (.pointer (some ⟨g, o + 0, none⟩)) := Pu.ok fun w => by kernel_rfl
theorem a1k {g o : Nat} : Pu Tryd.prog (xV (Instr.fieldAt 88 (.pointer (some ⟨g, o, none⟩)) 1)) (.pointer (some ⟨g, o + 1, none⟩)) := Pu.ok fun w => by kernel_rfl
theorem a1l {g o : Nat} : Pu Tryd.prog (xV (Instr.fieldAt 88 (.pointer (some ⟨g, o, none⟩)) 2)) (.pointer (some ⟨g, o + 2, none⟩)) := Pu.ok fun w => by kernel_rfl
theorem a1m {g o : Nat} : Pu Tryd.prog (xV (Instr.fieldAt 88 (.pointer (some ⟨g, o, none⟩)) 3)) (.pointer (some ⟨g, o + 3, none⟩)) := Pu.ok fun w => by kernel_rfl
theorem a2F {g o : Nat} : Pu Tryd.prog (xV (Instr.fieldAt 88 (.pointer (some ⟨g, o, none⟩)) 4)) (.pointer (some ⟨g, o + 4, none⟩)) := Pu.ok fun w => by kernel_rfl
theorem X4 {g o : Nat} : Pu Tryd.prog (xV (Instr.fieldAt 88 (.pointer (some ⟨g, o, none⟩)) 5)) (.pointer (some ⟨g, o + 5, none⟩)) := Pu.ok fun w => by kernel_rfl
theorem b0C {g o : Nat} : Pu Tryd.prog (xV (Instr.fieldAt 92 (.pointer (some ⟨g, o, none⟩)) 1)) (.pointer (some ⟨g, o + 1, none⟩)) := Pu.ok fun w => by kernel_rfl
theorem a4k {g o : Nat} : Pu Tryd.prog (xV (Instr.fieldAt 92 (.pointer (some ⟨g, o, none⟩)) 0)) (.pointer (some ⟨g, o + 0, none⟩)) := Pu.ok fun w => by kernel_rfl
theorem a6K {g o : Nat} : Pu Tryd.prog (xV (Instr.fieldAt 92 (.pointer (some ⟨g, o, none⟩)) 5)) (.pointer (some ⟨g, o + 5, none⟩)) := Pu.ok fun w => by kernel_rfl
theorem c2i {a : Option Addr} {g o : Nat} (ha : a = some ⟨g, o, none⟩) (len cap : Nat) (k : IntKind) (i : Int) (h0 : 0 ≤ i) (h1 : i < len) : Pu Tryd.prog (xV (Instr.indexAt 47 (.slice a len cap) (.int k i))) (.pointer (some ⟨g, o + i.toNat * 1, none⟩)) := T2 Tryd.underlying47 Tryd.sizeOf9 ha len cap k i h0 h1
abbrev r9 (x : ByteArray) : List Value := [(Value.string x)]
theorem a9z (x : ByteArray) : (r9 x).length = 1 := rfl
theorem a9A (x : ByteArray) : (r9 x).all (·.oneCell') = true := rfl
theorem b7r : Pu Tryd.prog (xV (Instr.build 114 #[])) (.agg #[.int .i64 0, .int .i64 0, .int .i64 0, .int .i64 0]) := Pu.ok fun w => by kernel_rfl
theorem b2L (k : IntKind) (n : Int) : Pu Tryd.prog (xV (convert 3 5 (.int k n))) (.int .u8 (IntKind.wrap .u8 n)) := Pu.ok fun w => run_convert_int (P := Tryd.prog) (w := w) 3 5 k n (by rw [Tryd.underlying3]; rfl) Tryd.underlying5
theorem c5O (a0 : Int) (a1 : Int) (w : World) : (Instr.buildSlice 40 2 #[(0, (Value.int .u8 a0)), (1, (Value.int .u8 a1))]).run Tryd.prog w = .ok (.slice (some ⟨w.heap.size, 0, none⟩) 2 2) (w.alloc (.cells [(Value.int .u8 a0), (Value.int .u8 a1)].toArray 5)) := by kernel_rfl
theorem b7s (k : IntKind) (n : Int) : Pu Tryd.prog (xV (convert 2 41 (.int k n))) (.int .u64 (IntKind.wrap .u64 n)) := Pu.ok fun w => run_convert_int (P := Tryd.prog) (w := w) 2 41 k n (by rw [Tryd.underlying2]; rfl) Tryd.underlying41
theorem b7t (k : IntKind) (n : Int) : Pu Tryd.prog (xV (convert 41 5 (.int k n))) (.int .u8 (IntKind.wrap .u8 n)) := Pu.ok fun w => run_convert_int (P := Tryd.prog) (w := w) 41 5 k n (by rw [Tryd.underlying41]; rfl) Tryd.underlying5
theorem c0r {E : Pan} {w0 w : World} {ps : Nat → Prop} {H0 H : Hp} {Fs : List Frag} {K : Value → World → Prop} {s : Sl} {xs : List Int} {F : Frag} {b : ByteArray} {ks : List Bool} {ty : TypeId} (I : Inv w0 ps H0 H (F :: Fs) w) (hr : RowL 5 1 i4 s xs F) (hb : (xs.length + b.size) * 2 ≤ 140737488355328) (h : ∀ (s' : Sl) (F' : Frag) (w' : World), RowL 5 1 i4 s' (xs ++ sbytes b) F' → Inv w0 ps H0 H (F' :: Fs) w' → (∀ k, k < w.heap.size → (∀ p ∈ F, p.1 ≠ k) → w'.heap[k]? = w.heap[k]?) → K (.slice s'.a s'.n s'.c) w') : opK Tryd.prog E (xBuiltin .append #[40, 9] ty ks [.slice s.a s.n s.c, .string b]) w K :=
  c2g (bytes := 1) (fun _ => rfl) Tryd.underlying40 Tryd.underlying9 c4T (by kernel_rfl) (by kernel_rfl) (by kernel_rfl) I hr b hb h
theorem b7u (a0 a1 a2 a3 : Int) (k : IntKind) (i : Int) (h0 : 0 ≤ i) (h1 : i < 4) : Pu Tryd.prog (xV (Instr.index 114 (.agg #[.int .i64 a0, .int .i64 a1, .int .i64 a2, .int .i64 a3]) (.int k i))) (.int .i64 (([a0, a1, a2, a3] : List Int).getD i.toNat 0)) := by
  obtain rfl | rfl | rfl | rfl := (by omega : i = 0 ∨ i = 1 ∨ i = 2 ∨ i = 3)
  · exact Pu.ok fun w => by kernel_rfl
  · exact Pu.ok fun w => by kernel_rfl
  · exact Pu.ok fun w => by kernel_rfl
  · exact Pu.ok fun w => by kernel_rfl
theorem a7P (a0 a1 a2 a3 : Int) : Pu Tryd.prog (xV (Instr.build 114 #[(0, .int .i64 a0), (1, .int .i64 a1), (2, .int .i64 a2), (3, .int .i64 a3)])) (.agg #[.int .i64 a0, .int .i64 a1, .int .i64 a2, .int .i64 a3]) := Pu.ok fun w => by kernel_rfl
theorem a6m (a0 a1 : Int) : Pu Tryd.prog (xV (Instr.build 114 #[(0, .int .i64 a0), (1, .int .i64 a1)])) (.agg #[.int .i64 a0, .int .i64 a1, .int .i64 0, .int .i64 0]) := Pu.ok fun w => by kernel_rfl
abbrev d6 (x : a8) : List Value := [(Value.string x.g8), (Value.bool x.d8b)]
theorem a0K (x : a8) : (d6 x).length = 2 := rfl
theorem a0L (x : a8) : (d6 x).all (·.oneCell') = true := rfl
theorem c5P (a0 : ByteArray) (w : World) : (Instr.buildSlice 47 1 #[(0, (Value.string a0))]).run Tryd.prog w = .ok (.slice (some ⟨w.heap.size, 0, none⟩) 1 1) (w.alloc (.cells [(Value.string a0)].toArray 9)) := by kernel_rfl
theorem d8c : Tryd.prog.info? 9 = some ((Tryd.prog.info? 9).getD default) := by kernel_rfl
theorem c8h {E : Pan} {w0 w : World} {ps : Nat → Prop} {H0 H : Hp} {Fs : List Frag} {K : Value → World → Prop} {s : Sl} {xs : List ByteArray} {F : Frag} {t2 : Sl} {ys : List ByteArray} {ks : List Bool} {ty : TypeId} (I : Inv w0 ps H0 H (F :: Fs) w) (hr : RowL 9 1 r9 s xs F) (hs : SrcO w r9 t2 ys) (hb : (xs.length + ys.length) * 17 ≤ 140737488355328) (h : ∀ (s' : Sl) (F' : Frag) (w' : World), RowL 9 1 r9 s' (xs ++ ys) F' → Inv w0 ps H0 H (F' :: Fs) w' → (∀ k, k < w.heap.size → (∀ p ∈ F, p.1 ≠ k) → w'.heap[k]? = w.heap[k]?) → K (.slice s'.a s'.n s'.c) w') : opK Tryd.prog E (xBuiltin .append #[47, 47] ty ks [.slice s.a s.n s.c, .slice t2.a t2.n t2.c]) w K :=
  b3a (bytes := 16) Tryd.underlying47 d8c (z := (Value.string ⟨#[]⟩)) (by kernel_rfl) (by kernel_rfl) (by kernel_rfl) (by kernel_rfl) I hr hs hb h
abbrev c5 (x : i6) : List Value := [(Value.int .i64 x.c7), (Value.int .i64 x.W2), (Value.string x.g8), (Value.slice x.p6.a x.p6.n x.p6.c)]
abbrev d5 (x : i8) : List Value := [(Value.int .i64 x.c7), (Value.string x.g8), (Value.slice x.b9.a x.b9.n x.b9.c), (Value.slice x.g6.a x.g6.n x.g6.c), (Value.slice x.w3.a x.w3.n x.w3.c), (Value.slice x.t1.a x.t1.n x.t1.c)]
theorem c0s  : Pu Tryd.prog (xV (Instr.build 92 #[])) (.agg #[(Value.int .i64 0), (Value.int .i64 0), (Value.int .i64 0), (Value.bool false), (Value.bool false), (Value.slice none 0 0)]) := Pu.ok fun w => by kernel_rfl
theorem a5H (a : Option Addr) (n c : Nat) : Pu Tryd.prog (xBuiltin .len #[97] 3 [false] [.slice a n c]) (.int .i64 (n : Int)) := M7 Tryd.underlying97 a n c
theorem c2j {a : Option Addr} {g o : Nat} (ha : a = some ⟨g, o, none⟩) (len cap : Nat) (k : IntKind) (i : Int) (h0 : 0 ≤ i) (h1 : i < len) : Pu Tryd.prog (xV (Instr.indexAt 97 (.slice a len cap) (.int k i))) (.pointer (some ⟨g, o + i.toNat * 1, none⟩)) := T2 Tryd.underlying97 Tryd.sizeOf141 ha len cap k i h0 h1
theorem a6L {g o : Nat} : Pu Tryd.prog (xV (Instr.fieldAt 92 (.pointer (some ⟨g, o, none⟩)) 3)) (.pointer (some ⟨g, o + 3, none⟩)) := Pu.ok fun w => by kernel_rfl
theorem a6M {g o : Nat} : Pu Tryd.prog (xV (Instr.fieldAt 92 (.pointer (some ⟨g, o, none⟩)) 4)) (.pointer (some ⟨g, o + 4, none⟩)) := Pu.ok fun w => by kernel_rfl
theorem b3P (a0a : Option Addr) (a0n a0c : Nat) (a1a : Option Addr) (a1n a1c : Nat) (w : World) : (Instr.buildSlice 172 2 #[(0, (Value.slice a0a a0n a0c)), (1, (Value.slice a1a a1n a1c))]).run Tryd.prog w = .ok (.slice (some ⟨w.heap.size, 0, none⟩) 2 2) (w.alloc (.cells [(Value.slice a0a a0n a0c), (Value.slice a1a a1n a1c)].toArray 97)) := by kernel_rfl
theorem a7A (a0 : ByteArray) (a1 : Bool) : Pu Tryd.prog (xV (Instr.build 71 #[(0, (Value.string a0)), (1, (Value.bool a1))])) (.agg #[(Value.string a0), (Value.bool a1)]) := Pu.ok fun w => by kernel_rfl
theorem b6J (a0T : ByteArray) (a0U : Bool) (w : World) : (Instr.buildSlice 68 1 #[(0, (Value.agg #[(Value.string a0T), (Value.bool a0U)]))]).run Tryd.prog w = .ok (.slice (some ⟨w.heap.size, 0, none⟩) 1 1) (w.alloc (.cells [(Value.string a0T), (Value.bool a0U)].toArray 71)) := by kernel_rfl
theorem c8i : Tryd.prog.info? 71 = some ((Tryd.prog.info? 71).getD default) := by kernel_rfl
theorem c0t {E : Pan} {w0 w : World} {ps : Nat → Prop} {H0 H : Hp} {Fs : List Frag} {K : Value → World → Prop} {s : Sl} {xs : List a8} {F : Frag} {t2 : Sl} {ys : List a8} {ks : List Bool} {ty : TypeId} (I : Inv w0 ps H0 H (F :: Fs) w) (hr : RowL 71 2 d6 s xs F) (hs : SrcO w d6 t2 ys) (hb : (xs.length + ys.length) * 25 ≤ 140737488355328) (h : ∀ (s' : Sl) (F' : Frag) (w' : World), RowL 71 2 d6 s' (xs ++ ys) F' → Inv w0 ps H0 H (F' :: Fs) w' → (∀ k, k < w.heap.size → (∀ p ∈ F, p.1 ≠ k) → w'.heap[k]? = w.heap[k]?) → K (.slice s'.a s'.n s'.c) w') : opK Tryd.prog E (xBuiltin .append #[68, 68] ty ks [.slice s.a s.n s.c, .slice t2.a t2.n t2.c]) w K :=
  b3a (bytes := 24) Tryd.underlying68 c8i (z := (Value.agg #[(Value.string ⟨#[]⟩), (Value.bool false)])) (by kernel_rfl) (by kernel_rfl) (by kernel_rfl) (by kernel_rfl) I hr hs hb h
abbrev c9 (x : i7) : List Value := [(Value.int .i64 x.c7), (Value.int .i64 x.fOp), (Value.slice x.b9.a x.b9.n x.b9.c), (Value.slice x.j9.a x.j9.n x.j9.c)]
theorem b0D (a : Option Addr) (n c : Nat) : Pu Tryd.prog (xBuiltin .len #[172] 3 [false] [.slice a n c]) (.int .i64 (n : Int)) := M7 Tryd.underlying172 a n c
theorem b2M {a : Option Addr} {g o : Nat} (ha : a = some ⟨g, o, none⟩) (len cap : Nat) (k : IntKind) (i : Int) (h0 : 0 ≤ i) (h1 : i < len) : Pu Tryd.prog (xV (Instr.indexAt 172 (.slice a len cap) (.int k i))) (.pointer (some ⟨g, o + i.toNat * 1, none⟩)) := T2 Tryd.underlying172 Tryd.sizeOf97 ha len cap k i h0 h1
theorem c0u (s : ByteArray) : Pu Tryd.prog (xV (Instr.makeInterface 9 (.string s))) (.iface 9 (.string s)) := Pu.ok fun w => by kernel_rfl
theorem b6K : Tryd.prog.info? 141 = some ((Tryd.prog.info? 141).getD default) := by kernel_rfl
theorem a7Q {E : Pan} {w0 w : World} {ps : Nat → Prop} {H0 H : Hp} {Fs : List Frag} {K : Value → World → Prop} {s : Sl} {xs : List b4} {F : Frag} {t2 : Sl} {ys : List b4} {ks : List Bool} {ty : TypeId} (I : Inv w0 ps H0 H (F :: Fs) w) (hr : RowL 141 1 g9 s xs F) (hs : SrcO w g9 t2 ys) (hb : (xs.length + ys.length) * 17 ≤ 140737488355328) (h : ∀ (s' : Sl) (F' : Frag) (w' : World), RowL 141 1 g9 s' (xs ++ ys) F' → Inv w0 ps H0 H (F' :: Fs) w' → (∀ k, k < w.heap.size → (∀ p ∈ F, p.1 ≠ k) → w'.heap[k]? = w.heap[k]?) → K (.slice s'.a s'.n s'.c) w') : opK Tryd.prog E (xBuiltin .append #[97, 97] ty ks [.slice s.a s.n s.c, .slice t2.a t2.n t2.c]) w K :=
  b3a (bytes := 16) Tryd.underlying97 b6K (z := Value.nilIface) (by kernel_rfl) (by kernel_rfl) (by kernel_rfl) (by kernel_rfl) I hr hs hb h
theorem b3Q (a0T : ByteArray) (a0U : Int) : Pu Tryd.prog (xV (Instr.build 175 #[(0, (Value.agg #[(Value.string a0T), (Value.int .i64 a0U)]))])) (.agg #[(Value.string a0T), (Value.int .i64 a0U)]) := Pu.ok fun w => by kernel_rfl
theorem b1K (x : D9) : Pu Tryd.prog (xV (Instr.makeInterface 175 (.agg #[(Value.string x.C7.g8), (Value.int .i64 x.C7.S1)]))) (l8 (b4.w9 x)) := Pu.ok fun w => rfl
theorem b3R (a0T : Int) (a0U : ByteArray) (a0_2a : Option Addr) (a0_2n a0_2c : Nat) (a0_3a : Option Addr) (a0_3n a0_3c : Nat) (a0_4a : Option Addr) (a0_4n a0_4c : Nat) (a0_5a : Option Addr) (a0_5n a0_5c : Nat) : Pu Tryd.prog (xV (Instr.build 177 #[(0, (Value.agg #[(Value.int .i64 a0T), (Value.string a0U), (Value.slice a0_2a a0_2n a0_2c), (Value.slice a0_3a a0_3n a0_3c), (Value.slice a0_4a a0_4n a0_4c), (Value.slice a0_5a a0_5n a0_5c)]))])) (.agg #[(Value.int .i64 a0T), (Value.string a0U), (Value.slice a0_2a a0_2n a0_2c), (Value.slice a0_3a a0_3n a0_3c), (Value.slice a0_4a a0_4n a0_4c), (Value.slice a0_5a a0_5n a0_5c)]) := Pu.ok fun w => by kernel_rfl
theorem b1L (x : B2) : Pu Tryd.prog (xV (Instr.makeInterface 177 (.agg #[(Value.int .i64 x.b5.c7), (Value.string x.b5.g8), (Value.slice x.b5.b9.a x.b5.b9.n x.b5.b9.c), (Value.slice x.b5.g6.a x.b5.g6.n x.b5.g6.c), (Value.slice x.b5.w3.a x.b5.w3.n x.b5.w3.c), (Value.slice x.b5.t1.a x.b5.t1.n x.b5.t1.c)]))) (l8 (b4.t7 x)) := Pu.ok fun w => rfl
theorem b2Y (x : b4) : Pu Tryd.prog (xV (Instr.typeAssert (l8 x) 141 175 true)) (.tuple #[(Value.agg #[(Value.string ((((x.H9)).C7).g8)), (Value.int .i64 ((((x.H9)).C7).S1))]), .bool (x.a3k)]) := by
  cases x <;> exact Pu.ok fun w => by kernel_rfl
theorem a1H {g o : Nat} : Pu Tryd.prog (xV (Instr.fieldAt 175 (.pointer (some ⟨g, o, none⟩)) 0)) (.pointer (some ⟨g, o + 0, none⟩)) := Pu.ok fun w => by kernel_rfl
theorem b2Z (x : b4) : Pu Tryd.prog (xV (Instr.typeAssert (l8 x) 141 177 true)) (.tuple #[(Value.agg #[(Value.int .i64 ((((x.c6)).b5).c7)), (Value.string ((((x.c6)).b5).g8)), (Value.slice ((((x.c6)).b5).b9).a ((((x.c6)).b5).b9).n ((((x.c6)).b5).b9).c), (Value.slice ((((x.c6)).b5).g6).a ((((x.c6)).b5).g6).n ((((x.c6)).b5).g6).c), (Value.slice ((((x.c6)).b5).w3).a ((((x.c6)).b5).w3).n ((((x.c6)).b5).w3).c), (Value.slice ((((x.c6)).b5).t1).a ((((x.c6)).b5).t1).n ((((x.c6)).b5).t1).c)]), .bool (x.a3l)]) := by
  cases x <;> exact Pu.ok fun w => by kernel_rfl
theorem t8 {g o : Nat} : Pu Tryd.prog (xV (Instr.fieldAt 177 (.pointer (some ⟨g, o, none⟩)) 0)) (.pointer (some ⟨g, o + 0, none⟩)) := Pu.ok fun w => by kernel_rfl
theorem b3S (x : b4) : Pu Tryd.prog (xV (Instr.typeAssert (l8 x) 141 96 true)) (.tuple #[(Value.agg #[(Value.int .i64 ((((x.h7)).f4).c7)), (Value.int .i64 ((((x.h7)).f4).W2)), (Value.string ((((x.h7)).f4).g8)), (Value.slice ((((x.h7)).f4).p6).a ((((x.h7)).f4).p6).n ((((x.h7)).f4).p6).c)]), .bool (x.a3j)]) := by
  cases x <;> exact Pu.ok fun w => by kernel_rfl
theorem B3 {g o : Nat} : Pu Tryd.prog (xV (Instr.fieldAt 96 (.pointer (some ⟨g, o, none⟩)) 0)) (.pointer (some ⟨g, o + 0, none⟩)) := Pu.ok fun w => by kernel_rfl
theorem J9 {g o : Nat} : Pu Tryd.prog (xV (Instr.fieldAt 106 (.pointer (some ⟨g, o, none⟩)) 0)) (.pointer (some ⟨g, o + 0, none⟩)) := Pu.ok fun w => by kernel_rfl
theorem U7 (a0 : Int) (a1 : Int) : Pu Tryd.prog (xV (Instr.build 209 #[(0, (Value.int .i64 a0)), (1, (Value.int .i64 a1))])) (.agg #[(Value.int .i64 a0), (Value.int .i64 a1)]) := Pu.ok fun w => by kernel_rfl
theorem c5Q (d : Nat) (a0 b0 : Int) (a1 b1 : Int) (w : World) : (Op.equalIn (d + 2) 209 (.agg #[(Value.int .i64 a0), (Value.int .i64 a1)]) (.agg #[(Value.int .i64 b0), (Value.int .i64 b1)])).run Tryd.prog w = .ok (decide (a0 = b0 ∧ a1 = b1)) w := by
  have u3 := Tryd.underlying3
  have i3 := Tryd.isAgg3
  have s3 := Tryd.sizeOf3
  have hS : Tryd.prog.underlying 209 = some (.struct (Tryd.prog.fieldsOf 209)) := by kernel_rfl
  rw [run_equalIn_agg w (d + 1) 209 _ _ hS (by kernel_rfl)]
  simp only [Program.fieldsOf, Tryd.underlying209]
  go_simp
  try simp only [b3z]
  by_cases h0 : a0 = b0
  · by_cases h1 : a1 = b1
    · simp [h0, h1]
    · simp [h0, h1]
  · simp [h0]
theorem a2o (x y : Operand) (a0 b0 : Int) (a1 b1 : Int) : Pu Tryd.prog (xBin .eql 209 x y (.agg #[(Value.int .i64 a0), (Value.int .i64 a1)]) (.agg #[(Value.int .i64 b0), (Value.int .i64 b1)])) (.bool (decide (a0 = b0 ∧ a1 = b1))) := by
  refine Pu.ok (s := do eqGuard .eql 209 x y (.agg #[(Value.int .i64 a0), (Value.int .i64 a1)]) (.agg #[(Value.int .i64 b0), (Value.int .i64 b1)]); binOp .eql 209 (.agg #[(Value.int .i64 a0), (Value.int .i64 a1)]) (.agg #[(Value.int .i64 b0), (Value.int .i64 b1)])) fun w => ?_
  rw [Sem.run_bind, run_eqGuard_agg w _ _ _ _ _ _ (by kernel_rfl), Result.andThen_ok, run_eql_struct, show (10000 : Nat) = 9998 + 2 from rfl, c5Q]
  rfl
theorem b7v  : Pu Tryd.prog (xV (Instr.build 209 #[])) (.agg #[(Value.int .i64 0), (Value.int .i64 0)]) := Pu.ok fun w => by kernel_rfl
theorem s8 (a0 : Int) (a1 : Int) : Pu Tryd.prog (xV (Instr.build 213 #[(0, (Value.int .i64 a0)), (1, (Value.int .i64 a1))])) (.agg #[(Value.int .i64 a0), (Value.int .i64 a1)]) := Pu.ok fun w => by kernel_rfl
theorem c5R (d : Nat) (a0 b0 : Int) (a1 b1 : Int) (w : World) : (Op.equalIn (d + 2) 213 (.agg #[(Value.int .i64 a0), (Value.int .i64 a1)]) (.agg #[(Value.int .i64 b0), (Value.int .i64 b1)])).run Tryd.prog w = .ok (decide (a0 = b0 ∧ a1 = b1)) w := by
  have u3 := Tryd.underlying3
  have i3 := Tryd.isAgg3
  have s3 := Tryd.sizeOf3
  have hS : Tryd.prog.underlying 213 = some (.struct (Tryd.prog.fieldsOf 213)) := by kernel_rfl
  rw [run_equalIn_agg w (d + 1) 213 _ _ hS (by kernel_rfl)]
  simp only [Program.fieldsOf, Tryd.underlying213]
  go_simp
  try simp only [b3z]
  by_cases h0 : a0 = b0
  · by_cases h1 : a1 = b1
    · simp [h0, h1]
    · simp [h0, h1]
  · simp [h0]
theorem C6 (x y : Operand) (a0 b0 : Int) (a1 b1 : Int) : Pu Tryd.prog (xBin .eql 213 x y (.agg #[(Value.int .i64 a0), (Value.int .i64 a1)]) (.agg #[(Value.int .i64 b0), (Value.int .i64 b1)])) (.bool (decide (a0 = b0 ∧ a1 = b1))) := by
  refine Pu.ok (s := do eqGuard .eql 213 x y (.agg #[(Value.int .i64 a0), (Value.int .i64 a1)]) (.agg #[(Value.int .i64 b0), (Value.int .i64 b1)]); binOp .eql 213 (.agg #[(Value.int .i64 a0), (Value.int .i64 a1)]) (.agg #[(Value.int .i64 b0), (Value.int .i64 b1)])) fun w => ?_
  rw [Sem.run_bind, run_eqGuard_agg w _ _ _ _ _ _ (by kernel_rfl), Result.andThen_ok, run_eql_struct, show (10000 : Nat) = 9998 + 2 from rfl, c5R]
  rfl
theorem a6N  : Pu Tryd.prog (xV (Instr.build 213 #[])) (.agg #[(Value.int .i64 0), (Value.int .i64 0)]) := Pu.ok fun w => by kernel_rfl
theorem c2k (a0a : Option Addr) (a0n a0c : Nat) (a1a : Option Addr) (a1n a1c : Nat) (a2a : Option Addr) (a2n a2c : Nat) (a3a : Option Addr) (a3n a3c : Nat) (w : World) : (Instr.buildSlice 172 4 #[(0, (Value.slice a0a a0n a0c)), (1, (Value.slice a1a a1n a1c)), (2, (Value.slice a2a a2n a2c)), (3, (Value.slice a3a a3n a3c))]).run Tryd.prog w = .ok (.slice (some ⟨w.heap.size, 0, none⟩) 4 4) (w.alloc (.cells [(Value.slice a0a a0n a0c), (Value.slice a1a a1n a1c), (Value.slice a2a a2n a2c), (Value.slice a3a a3n a3c)].toArray 97)) := by kernel_rfl
abbrev f9 (x : i5) : List Value := [(Value.slice x.R6.a x.R6.n x.R6.c), (Value.slice x.a3F.a x.a3F.n x.a3F.c)]
abbrev a1o (x : b8) : List Value := [(Value.int .i64 x.fnodes), (Value.int .i64 x.fdepth), (Value.int .i64 x.fe), (Value.bool x.fform), (Value.bool x.fnamed), (Value.slice x.fnames.a x.fnames.n x.fnames.c)]
end Go.Proofs.YthldnpmfelniiaaDoor
