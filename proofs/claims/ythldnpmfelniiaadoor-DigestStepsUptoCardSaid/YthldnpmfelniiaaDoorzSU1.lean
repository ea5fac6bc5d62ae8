/- Single operations at this program's types, and its structures; printed by lift.py. -/
import Derived.Test.YthldnpmfelniiaaDoorProg
import Derived.Test.YthldnpmfelniiaaDoorzSS4
import Derived.KernelRfl
import Derived.Laws.StructEq
import Derived.Laws.Tables
import Derived.Laws.Cover2
namespace Go.Proofs.YthldnpmfelniiaaDoor
open Go.RowKit
set_option maxRecDepth 100000
set_option maxHeartbeats 2000000
structure u7 where
  X0 : Sl
  a3z : Sl
structure o5 where
  c7 : Int
  R5 : Int
  g9 : ByteArray
  q8 : Sl
structure o9 where
  c7 : Int
  fOp : Int
  b8 : Sl
  j6 : Sl
structure z6 where
  g9 : ByteArray
  N2 : Int
structure c0p where
  g9 : ByteArray
  d6o : Bool
structure r9 where
  d4 : o5
structure b6 where
  fnodes : Int
  fdepth : Int
  fe : Int
  fform : Bool
  fnamed : Bool
  fnames : Sl
structure a7g where
  fn : Int
  fdepth : Int
  fbad : Int
structure a7h where
  fok : Bool
  fnames : Bool
structure w5 where
  c8 : o9
structure o6 where
  c7 : Int
  g9 : ByteArray
  b8 : Sl
  f7 : Sl
  t8 : Sl
  r5 : Sl
structure Q4 where
  f0 : Int
  f1 : Int
  f2 : Int
  f3 : Int
structure A0 where
  y7 : z6
structure w6 where
  b4 : o6
structure r6 where
  fexprs : Int
  fparts : Int
structure i7 where
  fexprs : Int
  fconds : Int
inductive b3 where
  | nil
  | p6 (x : r9)
  | u1 (x : w5)
  | t1 (x : A0)
  | q6 (x : w6)
def i8 : b3 → Value
  | .nil => .nilIface
  | .p6 x => .iface 96 (.agg #[(Value.int .i64 x.d4.c7), (Value.int .i64 x.d4.R5), (Value.string x.d4.g9), (Value.slice x.d4.q8.a x.d4.q8.n x.d4.q8.c)])
  | .u1 x => .iface 106 (.agg #[(Value.int .i64 x.c8.c7), (Value.int .i64 x.c8.fOp), (Value.slice x.c8.b8.a x.c8.b8.n x.c8.b8.c), (Value.slice x.c8.j6.a x.c8.j6.n x.c8.j6.c)])
  | .t1 x => .iface 175 (.agg #[(Value.string x.y7.g9), (Value.int .i64 x.y7.N2)])
  | .q6 x => .iface 177 (.agg #[(Value.int .i64 x.b4.c7), (Value.string x.b4.g9), (Value.slice x.b4.b8.a x.b4.b8.n x.b4.b8.c), (Value.slice x.b4.f7.a x.b4.f7.n x.b4.f7.c), (Value.slice x.b4.t8.a x.b4.t8.n x.b4.t8.c), (Value.slice x.b4.r5.a x.b4.r5.n x.b4.r5.c)])
theorem b0c (x : b3) : [i8 x].all (·.oneCell') = true := by cases x <;> rfl
def b3.g7 : b3 → r9
  | .p6 x => x
  | _ => (r9.mk (o5.mk 0 0 ⟨#[]⟩ (Sl.mk none 0 0)))
def b3.a1w : b3 → Bool
  | .p6 _ => true
  | _ => false
def b3.C0 : b3 → A0
  | .t1 x => x
  | _ => (A0.mk (z6.mk ⟨#[]⟩ 0))
def b3.a1x : b3 → Bool
  | .t1 _ => true
  | _ => false
def b3.b9 : b3 → w6
  | .q6 x => x
  | _ => (w6.mk (o6.mk 0 ⟨#[]⟩ (Sl.mk none 0 0) (Sl.mk none 0 0) (Sl.mk none 0 0) (Sl.mk none 0 0)))
def b3.a1y : b3 → Bool
  | .q6 _ => true
  | _ => false
abbrev f9 (x : Int) : List Value := [(Value.int .u8 x)]
theorem Q8 (x : Int) : (f9 x).length = 1 := rfl
theorem T8 (x : Int) : (f9 x).all (·.oneCell') = true := rfl
theorem c0q : Tryd.prog.info? 5 = some ((Tryd.prog.info? 5).getD default) := by kernel_rfl
theorem a4f {E : Pan} {w0 w : World} {ps : Nat → Prop} {H0 H : Hp} {Fs : List Frag} {K : Value → World → Prop} {s : Sl} {xs : List Int} {F : Frag} {t2 : Sl} {ys : List Int} {ks : List Bool} {ty : TypeId} (I : Inv w0 ps H0 H (F :: Fs) w) (hr : RowL 5 1 f9 s xs F) (hs : SrcO w f9 t2 ys) (hb : (xs.length + ys.length) * 2 ≤ 140737488355328) (h : ∀ (s' : Sl) (F' : Frag) (w' : World), RowL 5 1 f9 s' (xs ++ ys) F' → Inv w0 ps H0 H (F' :: Fs) w' → (∀ k, k < w.heap.size → (∀ p ∈ F, p.1 ≠ k) → w'.heap[k]? = w.heap[k]?) → K (.slice s'.a s'.n s'.c) w') : opK Tryd.prog E (xBuiltin .append #[40, 40] ty ks [.slice s.a s.n s.c, .slice t2.a t2.n t2.c]) w K :=
  b3D (bytes := 1) Tryd.underlying40 c0q (z := (Value.int .u8 0)) (by kernel_rfl) (by kernel_rfl) (by kernel_rfl) (by kernel_rfl) I hr hs hb h
theorem a4g (a0 : Int) (w : World) : (Instr.buildSlice 40 1 #[(0, (Value.int .u8 a0))]).run Tryd.prog w = .ok (.slice (some ⟨w.heap.size, 0, none⟩) 1 1) (w.alloc (.cells [(Value.int .u8 a0)].toArray 5)) := by kernel_rfl
theorem a7S (k : IntKind) (n : Int) : Pu Tryd.prog (xV (convert 5 41 (.int k n))) (.int .u64 (IntKind.wrap .u64 n)) := Pu.ok fun w => run_convert_int (P := Tryd.prog) (w := w) 5 41 k n (by rw [Tryd.underlying5]; rfl) Tryd.underlying41
theorem a7T {g o : Nat} : Pu Tryd.prog (xV (Instr.fieldAt 25 (.pointer (some ⟨g, o, none⟩)) 0)) (.pointer (some ⟨g, o + 0, none⟩)) := Pu.ok fun w => by kernel_rfl
theorem a9R (a : Option Addr) (n c : Nat) : Pu Tryd.prog (xBuiltin .len #[22] 3 [false] [.slice a n c]) (.int .i64 (n : Int)) := L9 Tryd.underlying22 a n c
theorem b0G {a : Option Addr} {g o : Nat} (ha : a = some ⟨g, o, none⟩) (len cap : Nat) (k : IntKind) (i : Int) (h0 : 0 ≤ i) (h1 : i < len) : Pu Tryd.prog (xV (Instr.indexAt 22 (.slice a len cap) (.int k i))) (.pointer (some ⟨g, o + i.toNat * 2, none⟩)) := Q6 Tryd.underlying22 Tryd.sizeOf67 ha len cap k i h0 h1
theorem a7U {g o : Nat} : Pu Tryd.prog (xV (Instr.fieldAt 67 (.pointer (some ⟨g, o, none⟩)) 0)) (.pointer (some ⟨g, o + 0, none⟩)) := Pu.ok fun w => by kernel_rfl
theorem a9S (a : Option Addr) (n c : Nat) : Pu Tryd.prog (xBuiltin .len #[40] 3 [false] [.slice a n c]) (.int .i64 (n : Int)) := L9 Tryd.underlying40 a n c
theorem a7V {g o : Nat} : Pu Tryd.prog (xV (Instr.fieldAt 25 (.pointer (some ⟨g, o, none⟩)) 1)) (.pointer (some ⟨g, o + 1, none⟩)) := Pu.ok fun w => by kernel_rfl
abbrev i5 (x : z6) : List Value := [(Value.string x.g9), (Value.int .i64 x.N2)]
theorem b0d (x : z6) : (i5 x).length = 2 := rfl
theorem b0e (x : z6) : (i5 x).all (·.oneCell') = true := rfl
theorem c1f (a0T : ByteArray) (a0U : Int) (w : World) : (Instr.buildSlice 22 1 #[(0, (Value.agg #[(Value.string a0T), (Value.int .i64 a0U)]))]).run Tryd.prog w = .ok (.slice (some ⟨w.heap.size, 0, none⟩) 1 1) (w.alloc (.cells [(Value.string a0T), (Value.int .i64 a0U)].toArray 67)) := by kernel_rfl
theorem Q9 (a : Option Addr) (n c : Nat) : Pu Tryd.prog (xBuiltin .len #[23] 3 [false] [.slice a n c]) (.int .i64 (n : Int)) := L9 Tryd.underlying23 a n c
theorem b2T (a0T : Int) (a0U : Int) (c3p : ByteArray) (a0_3a : Option Addr) (a0_3n a0_3c : Nat) : Pu Tryd.prog (xV (Instr.build 96 #[(0, (Value.agg #[(Value.int .i64 a0T), (Value.int .i64 a0U), (Value.string c3p), (Value.slice a0_3a a0_3n a0_3c)]))])) (.agg #[(Value.int .i64 a0T), (Value.int .i64 a0U), (Value.string c3p), (Value.slice a0_3a a0_3n a0_3c)]) := Pu.ok fun w => by kernel_rfl
theorem a5r (x : r9) : Pu Tryd.prog (xV (Instr.makeInterface 96 (.agg #[(Value.int .i64 x.d4.c7), (Value.int .i64 x.d4.R5), (Value.string x.d4.g9), (Value.slice x.d4.q8.a x.d4.q8.n x.d4.q8.c)]))) (i8 (b3.p6 x)) := Pu.ok fun w => rfl
abbrev g6 (x : b3) : List Value := [(i8 x)]
theorem y9 (x : b3) : (g6 x).length = 1 := rfl
theorem B4 (x : b3) : (g6 x).all (·.oneCell') = true := b0c x
theorem a6y (a0 : b3) (w : World) : (Instr.buildSlice 97 1 #[(0, (i8 a0))]).run Tryd.prog w = .ok (.slice (some ⟨w.heap.size, 0, none⟩) 1 1) (w.alloc (.cells [(i8 a0)].toArray 141)) := by cases a0 <;> kernel_rfl
theorem a0V {g o : Nat} : Pu Tryd.prog (xV (Instr.fieldAt 92 (.pointer (some ⟨g, o, none⟩)) 2)) (.pointer (some ⟨g, o + 2, none⟩)) := Pu.ok fun w => by kernel_rfl
theorem a2i {g o : Nat} : Pu Tryd.prog (xV (Instr.fieldAt 30 (.pointer (some ⟨g, o, none⟩)) 3)) (.pointer (some ⟨g, o + 3, none⟩)) := Pu.ok fun w => by kernel_rfl
theorem O3 (a : Option Addr) (n c : Nat) : Pu Tryd.prog (xBuiltin .len #[28] 3 [false] [.slice a n c]) (.int .i64 (n : Int)) := L9 Tryd.underlying28 a n c
theorem a4y {a : Option Addr} {g o : Nat} (ha : a = some ⟨g, o, none⟩) (len cap : Nat) (k : IntKind) (i : Int) (h0 : 0 ≤ i) (h1 : i < len) : Pu Tryd.prog (xV (Instr.indexAt 28 (.slice a len cap) (.int k i))) (.pointer (some ⟨g, o + i.toNat * 4, none⟩)) := Q6 Tryd.underlying28 Tryd.sizeOf30 ha len cap k i h0 h1
theorem T9 {g o : Nat} : Pu Tryd.prog (xV (Instr.fieldAt 30 (.pointer (some ⟨g, o, none⟩)) 0)) (.pointer (some ⟨g, o + 0, none⟩)) := Pu.ok fun w => by kernel_rfl
theorem Y5 {g o : Nat} : Pu Tryd.prog (xV (Instr.fieldAt 30 (.pointer (some ⟨g, o, none⟩)) 2)) (.pointer (some ⟨g, o + 2, none⟩)) := Pu.ok fun w => by kernel_rfl
theorem a0W {g o : Nat} : Pu Tryd.prog (xV (Instr.fieldAt 30 (.pointer (some ⟨g, o, none⟩)) 1)) (.pointer (some ⟨g, o + 1, none⟩)) := Pu.ok fun w => by kernel_rfl
theorem b0H (a0T : Int) (a0U : Int) (a0_2a : Option Addr) (a0_2n a0_2c : Nat) (a0_3a : Option Addr) (a0_3n a0_3c : Nat) : Pu Tryd.prog (xV (Instr.build 106 #[(0, (Value.agg #[(Value.int .i64 a0T), (Value.int .i64 a0U), (Value.slice a0_2a a0_2n a0_2c), (Value.slice a0_3a a0_3n a0_3c)]))])) (.agg #[(Value.int .i64 a0T), (Value.int .i64 a0U), (Value.slice a0_2a a0_2n a0_2c), (Value.slice a0_3a a0_3n a0_3c)]) := Pu.ok fun w => by kernel_rfl
theorem a8L (x : w5) : Pu Tryd.prog (xV (Instr.makeInterface 106 (.agg #[(Value.int .i64 x.c8.c7), (Value.int .i64 x.c8.fOp), (Value.slice x.c8.b8.a x.c8.b8.n x.c8.b8.c), (Value.slice x.c8.j6.a x.c8.j6.n x.c8.j6.c)]))) (i8 (b3.u1 x)) := Pu.ok fun w => rfl
theorem a2j {g o : Nat} : Pu Tryd.prog (xV (Instr.fieldAt 33 (.pointer (some ⟨g, o, none⟩)) 2)) (.pointer (some ⟨g, o + 2, none⟩)) := Pu.ok fun w => by kernel_rfl
theorem a2k {g o : Nat} : Pu Tryd.prog (xV (Instr.fieldAt 33 (.pointer (some ⟨g, o, none⟩)) 3)) (.pointer (some ⟨g, o + 3, none⟩)) := Pu.ok fun w => by kernel_rfl
theorem X1 (a : Option Addr) (n c : Nat) : Pu Tryd.prog (xBuiltin .len #[31] 3 [false] [.slice a n c]) (.int .i64 (n : Int)) := L9 Tryd.underlying31 a n c
theorem a7i {a : Option Addr} {g o : Nat} (ha : a = some ⟨g, o, none⟩) (len cap : Nat) (k : IntKind) (i : Int) (h0 : 0 ≤ i) (h1 : i < len) : Pu Tryd.prog (xV (Instr.indexAt 31 (.slice a len cap) (.int k i))) (.pointer (some ⟨g, o + i.toNat * 4, none⟩)) := Q6 Tryd.underlying31 Tryd.sizeOf33 ha len cap k i h0 h1
theorem a4z {g o : Nat} : Pu Tryd.prog (xV (Instr.fieldAt 33 (.pointer (some ⟨g, o, none⟩)) 0)) (.pointer (some ⟨g, o + 0, none⟩)) := Pu.ok fun w => by kernel_rfl
theorem Y6 {g o : Nat} : Pu Tryd.prog (xV (Instr.fieldAt 33 (.pointer (some ⟨g, o, none⟩)) 1)) (.pointer (some ⟨g, o + 1, none⟩)) := Pu.ok fun w => by kernel_rfl
theorem b2U (a0 : ByteArray) : Pu Tryd.prog (xV (Instr.build 67 #[(0, (Value.string a0))])) (.agg #[(Value.string a0), (Value.int .i64 0)]) := Pu.ok fun w => by kernel_rfl
theorem b2V (a0a : Option Addr) (a0n a0c : Nat) : Pu Tryd.prog (xV (Instr.build 25 #[(0, (Value.slice a0a a0n a0c))])) (.agg #[(Value.slice a0a a0n a0c), (Value.slice none 0 0)]) := Pu.ok fun w => by kernel_rfl
theorem b0I {a : Option Addr} {g o : Nat} (ha : a = some ⟨g, o, none⟩) (len cap : Nat) (k : IntKind) (i : Int) (h0 : 0 ≤ i) (h1 : i < len) : Pu Tryd.prog (xV (Instr.indexAt 40 (.slice a len cap) (.int k i))) (.pointer (some ⟨g, o + i.toNat * 1, none⟩)) := Q6 Tryd.underlying40 Tryd.sizeOf5 ha len cap k i h0 h1
theorem a0X {g o : Nat} : Pu Tryd.prog (xV (Instr.fieldAt 67 (.pointer (some ⟨g, o, none⟩)) 1)) (.pointer (some ⟨g, o + 1, none⟩)) := Pu.ok fun w => by kernel_rfl
theorem b0J {a : Option Addr} {g o : Nat} (ha : a = some ⟨g, o, none⟩) (len cap : Nat) (k : IntKind) (i : Int) (h0 : 0 ≤ i) (h1 : i < len) : Pu Tryd.prog (xV (Instr.indexAt 23 (.slice a len cap) (.int k i))) (.pointer (some ⟨g, o + i.toNat * 6, none⟩)) := Q6 Tryd.underlying23 Tryd.sizeOf88 ha len cap k i h0 h1
theorem Y7 {g o : Nat} : Pu Tryd.prog (xV (Instr.fieldAt 88 (.pointer (some ⟨g, o, none⟩)) 0)) (.pointer (some ⟨g, o + 0, none⟩)) := Pu.ok fun w => by kernel_rfl
theorem a0Y {g o : Nat} : Pu Tryd.prog (xV (Instr.fieldAt 88 (.pointer (some ⟨g, o, none⟩)) 1)) (.pointer (some ⟨g, o + 1, none⟩)) := Pu.ok fun w => by kernel_rfl
theorem a2l {g o : Nat} : Pu Tryd.prog (xV (Instr.fieldAt 88 (.pointer (some ⟨g, o, none⟩)) 2)) (.pointer (some ⟨g, o + 2, none⟩)) := Pu.ok fun w => by kernel_rfl
theorem a2m {g o : Nat} : Pu Tryd.prog (xV (Instr.fieldAt 88 (.pointer (some ⟨g, o, none⟩)) 3)) (.pointer (some ⟨g, o + 3, none⟩)) := Pu.ok fun w => by kernel_rfl
theorem a2o {g o : Nat} : Pu Tryd.prog (xV (Instr.fieldAt 88 (.pointer (some ⟨g, o, none⟩)) 4)) (.pointer (some ⟨g, o + 4, none⟩)) := Pu.ok fun w => by kernel_rfl
theorem U0 {g o : Nat} : Pu Tryd.prog (xV (Instr.fieldAt 88 (.pointer (some ⟨g, o, none⟩)) 5)) (.pointer (some ⟨g, o + 5, none⟩)) := Pu.ok fun w => by kernel_rfl
theorem a7W {g o : Nat} : Pu Tryd.prog (xV (Instr.fieldAt 92 (.pointer (some ⟨g, o, none⟩)) 1)) (.pointer (some ⟨g, o + 1, none⟩)) := Pu.ok fun w => by kernel_rfl
theorem a4A {g o : Nat} : Pu Tryd.prog (xV (Instr.fieldAt 92 (.pointer (some ⟨g, o, none⟩)) 0)) (.pointer (some ⟨g, o + 0, none⟩)) := Pu.ok fun w => by kernel_rfl
theorem a4B {g o : Nat} : Pu Tryd.prog (xV (Instr.fieldAt 92 (.pointer (some ⟨g, o, none⟩)) 5)) (.pointer (some ⟨g, o + 5, none⟩)) := Pu.ok fun w => by kernel_rfl
theorem b7U {a : Option Addr} {g o : Nat} (ha : a = some ⟨g, o, none⟩) (len cap : Nat) (k : IntKind) (i : Int) (h0 : 0 ≤ i) (h1 : i < len) : Pu Tryd.prog (xV (Instr.indexAt 47 (.slice a len cap) (.int k i))) (.pointer (some ⟨g, o + i.toNat * 1, none⟩)) := Q6 Tryd.underlying47 Tryd.sizeOf9 ha len cap k i h0 h1
abbrev p5 (x : ByteArray) : List Value := [(Value.string x)]
theorem a6Y (x : ByteArray) : (p5 x).length = 1 := rfl
theorem a6Z (x : ByteArray) : (p5 x).all (·.oneCell') = true := rfl
theorem b3G : Pu Tryd.prog (xV (Instr.build 114 #[])) (.agg #[.int .i64 0, .int .i64 0, .int .i64 0, .int .i64 0]) := Pu.ok fun w => by kernel_rfl
theorem a9T (k : IntKind) (n : Int) : Pu Tryd.prog (xV (convert 3 5 (.int k n))) (.int .u8 (IntKind.wrap .u8 n)) := Pu.ok fun w => run_convert_int (P := Tryd.prog) (w := w) 3 5 k n (by rw [Tryd.underlying3]; rfl) Tryd.underlying5
theorem c1g (a0 : Int) (a1 : Int) (w : World) : (Instr.buildSlice 40 2 #[(0, (Value.int .u8 a0)), (1, (Value.int .u8 a1))]).run Tryd.prog w = .ok (.slice (some ⟨w.heap.size, 0, none⟩) 2 2) (w.alloc (.cells [(Value.int .u8 a0), (Value.int .u8 a1)].toArray 5)) := by kernel_rfl
theorem b3H (k : IntKind) (n : Int) : Pu Tryd.prog (xV (convert 2 41 (.int k n))) (.int .u64 (IntKind.wrap .u64 n)) := Pu.ok fun w => run_convert_int (P := Tryd.prog) (w := w) 2 41 k n (by rw [Tryd.underlying2]; rfl) Tryd.underlying41
theorem b3I (k : IntKind) (n : Int) : Pu Tryd.prog (xV (convert 41 5 (.int k n))) (.int .u8 (IntKind.wrap .u8 n)) := Pu.ok fun w => run_convert_int (P := Tryd.prog) (w := w) 41 5 k n (by rw [Tryd.underlying41]; rfl) Tryd.underlying5
theorem b6k {E : Pan} {w0 w : World} {ps : Nat → Prop} {H0 H : Hp} {Fs : List Frag} {K : Value → World → Prop} {s : Sl} {xs : List Int} {F : Frag} {b : ByteArray} {ks : List Bool} {ty : TypeId} (I : Inv w0 ps H0 H (F :: Fs) w) (hr : RowL 5 1 f9 s xs F) (hb : (xs.length + b.size) * 2 ≤ 140737488355328) (h : ∀ (s' : Sl) (F' : Frag) (w' : World), RowL 5 1 f9 s' (xs ++ sbytes b) F' → Inv w0 ps H0 H (F' :: Fs) w' → (∀ k, k < w.heap.size → (∀ p ∈ F, p.1 ≠ k) → w'.heap[k]? = w.heap[k]?) → K (.slice s'.a s'.n s'.c) w') : opK Tryd.prog E (xBuiltin .append #[40, 9] ty ks [.slice s.a s.n s.c, .string b]) w K :=
  b7T (bytes := 1) (fun _ => rfl) Tryd.underlying40 Tryd.underlying9 c0q (by kernel_rfl) (by kernel_rfl) (by kernel_rfl) I hr b hb h
theorem b3J (a0 a1 a2 a3 : Int) (k : IntKind) (i : Int) (h0 : 0 ≤ i) (h1 : i < 4) : Pu Tryd.prog (xV (Instr.index 114 (.agg #[.int .i64 a0, .int .i64 a1, .int .i64 a2, .int .i64 a3]) (.int k i))) (.int .i64 (([a0, a1, a2, a3] : List Int).getD i.toNat 0)) := by
  obtain rfl | rfl | rfl | rfl := (by omega : i = 0 ∨ i = 1 ∨ i = 2 ∨ i = 3)
  · exact Pu.ok fun w => by kernel_rfl
  · exact Pu.ok fun w => by kernel_rfl
  · exact Pu.ok fun w => by kernel_rfl
  · exact Pu.ok fun w => by kernel_rfl
theorem a5E (a0 a1 a2 a3 : Int) : Pu Tryd.prog (xV (Instr.build 114 #[(0, .int .i64 a0), (1, .int .i64 a1), (2, .int .i64 a2), (3, .int .i64 a3)])) (.agg #[.int .i64 a0, .int .i64 a1, .int .i64 a2, .int .i64 a3]) := Pu.ok fun w => by kernel_rfl
theorem a4h (a0 a1 : Int) : Pu Tryd.prog (xV (Instr.build 114 #[(0, .int .i64 a0), (1, .int .i64 a1)])) (.agg #[.int .i64 a0, .int .i64 a1, .int .i64 0, .int .i64 0]) := Pu.ok fun w => by kernel_rfl
theorem c1h (a0 : ByteArray) (w : World) : (Instr.buildSlice 47 1 #[(0, (Value.string a0))]).run Tryd.prog w = .ok (.slice (some ⟨w.heap.size, 0, none⟩) 1 1) (w.alloc (.cells [(Value.string a0)].toArray 9)) := by kernel_rfl
theorem d0S : Tryd.prog.info? 9 = some ((Tryd.prog.info? 9).getD default) := by kernel_rfl
theorem c3q {E : Pan} {w0 w : World} {ps : Nat → Prop} {H0 H : Hp} {Fs : List Frag} {K : Value → World → Prop} {s : Sl} {xs : List ByteArray} {F : Frag} {t2 : Sl} {ys : List ByteArray} {ks : List Bool} {ty : TypeId} (I : Inv w0 ps H0 H (F :: Fs) w) (hr : RowL 9 1 p5 s xs F) (hs : SrcO w p5 t2 ys) (hb : (xs.length + ys.length) * 17 ≤ 140737488355328) (h : ∀ (s' : Sl) (F' : Frag) (w' : World), RowL 9 1 p5 s' (xs ++ ys) F' → Inv w0 ps H0 H (F' :: Fs) w' → (∀ k, k < w.heap.size → (∀ p ∈ F, p.1 ≠ k) → w'.heap[k]? = w.heap[k]?) → K (.slice s'.a s'.n s'.c) w') : opK Tryd.prog E (xBuiltin .append #[47, 47] ty ks [.slice s.a s.n s.c, .slice t2.a t2.n t2.c]) w K :=
  b3D (bytes := 16) Tryd.underlying47 d0S (z := (Value.string ⟨#[]⟩)) (by kernel_rfl) (by kernel_rfl) (by kernel_rfl) (by kernel_rfl) I hr hs hb h
abbrev c9 (x : o5) : List Value := [(Value.int .i64 x.c7), (Value.int .i64 x.R5), (Value.string x.g9), (Value.slice x.q8.a x.q8.n x.q8.c)]
abbrev f6 (x : o6) : List Value := [(Value.int .i64 x.c7), (Value.string x.g9), (Value.slice x.b8.a x.b8.n x.b8.c), (Value.slice x.f7.a x.f7.n x.f7.c), (Value.slice x.t8.a x.t8.n x.t8.c), (Value.slice x.r5.a x.r5.n x.r5.c)]
theorem b6l  : Pu Tryd.prog (xV (Instr.build 92 #[])) (.agg #[(Value.int .i64 0), (Value.int .i64 0), (Value.int .i64 0), (Value.bool false), (Value.bool false), (Value.slice none 0 0)]) := Pu.ok fun w => by kernel_rfl
theorem a3A (a : Option Addr) (n c : Nat) : Pu Tryd.prog (xBuiltin .len #[97] 3 [false] [.slice a n c]) (.int .i64 (n : Int)) := L9 Tryd.underlying97 a n c
theorem b7V {a : Option Addr} {g o : Nat} (ha : a = some ⟨g, o, none⟩) (len cap : Nat) (k : IntKind) (i : Int) (h0 : 0 ≤ i) (h1 : i < len) : Pu Tryd.prog (xV (Instr.indexAt 97 (.slice a len cap) (.int k i))) (.pointer (some ⟨g, o + i.toNat * 1, none⟩)) := Q6 Tryd.underlying97 Tryd.sizeOf141 ha len cap k i h0 h1
theorem a4C {g o : Nat} : Pu Tryd.prog (xV (Instr.fieldAt 92 (.pointer (some ⟨g, o, none⟩)) 3)) (.pointer (some ⟨g, o + 3, none⟩)) := Pu.ok fun w => by kernel_rfl
theorem a4D {g o : Nat} : Pu Tryd.prog (xV (Instr.fieldAt 92 (.pointer (some ⟨g, o, none⟩)) 4)) (.pointer (some ⟨g, o + 4, none⟩)) := Pu.ok fun w => by kernel_rfl
theorem b0K (a0a : Option Addr) (a0n a0c : Nat) (a1a : Option Addr) (a1n a1c : Nat) (w : World) : (Instr.buildSlice 172 2 #[(0, (Value.slice a0a a0n a0c)), (1, (Value.slice a1a a1n a1c))]).run Tryd.prog w = .ok (.slice (some ⟨w.heap.size, 0, none⟩) 2 2) (w.alloc (.cells [(Value.slice a0a a0n a0c), (Value.slice a1a a1n a1c)].toArray 97)) := by kernel_rfl
abbrev d7 (x : o9) : List Value := [(Value.int .i64 x.c7), (Value.int .i64 x.fOp), (Value.slice x.b8.a x.b8.n x.b8.c), (Value.slice x.j6.a x.j6.n x.j6.c)]
theorem a7X (a : Option Addr) (n c : Nat) : Pu Tryd.prog (xBuiltin .len #[172] 3 [false] [.slice a n c]) (.int .i64 (n : Int)) := L9 Tryd.underlying172 a n c
theorem a9U {a : Option Addr} {g o : Nat} (ha : a = some ⟨g, o, none⟩) (len cap : Nat) (k : IntKind) (i : Int) (h0 : 0 ≤ i) (h1 : i < len) : Pu Tryd.prog (xV (Instr.indexAt 172 (.slice a len cap) (.int k i))) (.pointer (some ⟨g, o + i.toNat * 1, none⟩)) := Q6 Tryd.underlying172 Tryd.sizeOf97 ha len cap k i h0 h1
theorem b6m (s : ByteArray) : Pu Tryd.prog (xV (Instr.makeInterface 9 (.string s))) (.iface 9 (.string s)) := Pu.ok fun w => by kernel_rfl
theorem b3h : Tryd.prog.info? 141 = some ((Tryd.prog.info? 141).getD default) := by kernel_rfl
theorem a5F {E : Pan} {w0 w : World} {ps : Nat → Prop} {H0 H : Hp} {Fs : List Frag} {K : Value → World → Prop} {s : Sl} {xs : List b3} {F : Frag} {t2 : Sl} {ys : List b3} {ks : List Bool} {ty : TypeId} (I : Inv w0 ps H0 H (F :: Fs) w) (hr : RowL 141 1 g6 s xs F) (hs : SrcO w g6 t2 ys) (hb : (xs.length + ys.length) * 17 ≤ 140737488355328) (h : ∀ (s' : Sl) (F' : Frag) (w' : World), RowL 141 1 g6 s' (xs ++ ys) F' → Inv w0 ps H0 H (F' :: Fs) w' → (∀ k, k < w.heap.size → (∀ p ∈ F, p.1 ≠ k) → w'.heap[k]? = w.heap[k]?) → K (.slice s'.a s'.n s'.c) w') : opK Tryd.prog E (xBuiltin .append #[97, 97] ty ks [.slice s.a s.n s.c, .slice t2.a t2.n t2.c]) w K :=
  b3D (bytes := 16) Tryd.underlying97 b3h (z := Value.nilIface) (by kernel_rfl) (by kernel_rfl) (by kernel_rfl) (by kernel_rfl) I hr hs hb h
theorem b0L (a0T : ByteArray) (a0U : Int) : Pu Tryd.prog (xV (Instr.build 175 #[(0, (Value.agg #[(Value.string a0T), (Value.int .i64 a0U)]))])) (.agg #[(Value.string a0T), (Value.int .i64 a0U)]) := Pu.ok fun w => by kernel_rfl
theorem a8M (x : A0) : Pu Tryd.prog (xV (Instr.makeInterface 175 (.agg #[(Value.string x.y7.g9), (Value.int .i64 x.y7.N2)]))) (i8 (b3.t1 x)) := Pu.ok fun w => rfl
theorem b0M (a0T : Int) (a0U : ByteArray) (a0_2a : Option Addr) (a0_2n a0_2c : Nat) (a0_3a : Option Addr) (a0_3n a0_3c : Nat) (a0_4a : Option Addr) (a0_4n a0_4c : Nat) (a0_5a : Option Addr) (a0_5n a0_5c : Nat) : Pu Tryd.prog (xV (Instr.build 177 #[(0, (Value.agg #[(Value.int .i64 a0T), (Value.string a0U), (Value.slice a0_2a a0_2n a0_2c), (Value.slice a0_3a a0_3n a0_3c), (Value.slice a0_4a a0_4n a0_4c), (Value.slice a0_5a a0_5n a0_5c)]))])) (.agg #[(Value.int .i64 a0T), (Value.string a0U), (Value.slice a0_2a a0_2n a0_2c), (Value.slice a0_3a a0_3n a0_3c), (Value.slice a0_4a a0_4n a0_4c), (Value.slice a0_5a a0_5n a0_5c)]) := Pu.ok fun w => by kernel_rfl
theorem a8N (x : w6) : Pu Tryd.prog (xV (Instr.makeInterface 177 (.agg #[(Value.int .i64 x.b4.c7), (Value.string x.b4.g9), (Value.slice x.b4.b8.a x.b4.b8.n x.b4.b8.c), (Value.slice x.b4.f7.a x.b4.f7.n x.b4.f7.c), (Value.slice x.b4.t8.a x.b4.t8.n x.b4.t8.c), (Value.slice x.b4.r5.a x.b4.r5.n x.b4.r5.c)]))) (i8 (b3.q6 x)) := Pu.ok fun w => rfl
theorem b0f (x : b3) : Pu Tryd.prog (xV (Instr.typeAssert (i8 x) 141 175 true)) (.tuple #[(Value.agg #[(Value.string ((((x.C0)).y7).g9)), (Value.int .i64 ((((x.C0)).y7).N2))]), .bool (x.a1x)]) := by
  cases x <;> exact Pu.ok fun w => by kernel_rfl
theorem a0g {g o : Nat} : Pu Tryd.prog (xV (Instr.fieldAt 175 (.pointer (some ⟨g, o, none⟩)) 0)) (.pointer (some ⟨g, o + 0, none⟩)) := Pu.ok fun w => by kernel_rfl
theorem b0g (x : b3) : Pu Tryd.prog (xV (Instr.typeAssert (i8 x) 141 177 true)) (.tuple #[(Value.agg #[(Value.int .i64 ((((x.b9)).b4).c7)), (Value.string ((((x.b9)).b4).g9)), (Value.slice ((((x.b9)).b4).b8).a ((((x.b9)).b4).b8).n ((((x.b9)).b4).b8).c), (Value.slice ((((x.b9)).b4).f7).a ((((x.b9)).b4).f7).n ((((x.b9)).b4).f7).c), (Value.slice ((((x.b9)).b4).t8).a ((((x.b9)).b4).t8).n ((((x.b9)).b4).t8).c), (Value.slice ((((x.b9)).b4).r5).a ((((x.b9)).b4).r5).n ((((x.b9)).b4).r5).c)]), .bool (x.a1y)]) := by
  cases x <;> exact Pu.ok fun w => by kernel_rfl
theorem q7 {g o : Nat} : Pu Tryd.prog (xV (Instr.fieldAt 177 (.pointer (some ⟨g, o, none⟩)) 0)) (.pointer (some ⟨g, o + 0, none⟩)) := Pu.ok fun w => by kernel_rfl
theorem b0N (x : b3) : Pu Tryd.prog (xV (Instr.typeAssert (i8 x) 141 96 true)) (.tuple #[(Value.agg #[(Value.int .i64 ((((x.g7)).d4).c7)), (Value.int .i64 ((((x.g7)).d4).R5)), (Value.string ((((x.g7)).d4).g9)), (Value.slice ((((x.g7)).d4).q8).a ((((x.g7)).d4).q8).n ((((x.g7)).d4).q8).c)]), .bool (x.a1w)]) := by
  cases x <;> exact Pu.ok fun w => by kernel_rfl
theorem w8 {g o : Nat} : Pu Tryd.prog (xV (Instr.fieldAt 96 (.pointer (some ⟨g, o, none⟩)) 0)) (.pointer (some ⟨g, o + 0, none⟩)) := Pu.ok fun w => by kernel_rfl
theorem C7 {g o : Nat} : Pu Tryd.prog (xV (Instr.fieldAt 106 (.pointer (some ⟨g, o, none⟩)) 0)) (.pointer (some ⟨g, o + 0, none⟩)) := Pu.ok fun w => by kernel_rfl
theorem O6 (a0 : Int) (a1 : Int) : Pu Tryd.prog (xV (Instr.build 209 #[(0, (Value.int .i64 a0)), (1, (Value.int .i64 a1))])) (.agg #[(Value.int .i64 a0), (Value.int .i64 a1)]) := Pu.ok fun w => by kernel_rfl
theorem c1i (d : Nat) (a0 b0 : Int) (a1 b1 : Int) (w : World) : (Op.equalIn (d + 2) 209 (.agg #[(Value.int .i64 a0), (Value.int .i64 a1)]) (.agg #[(Value.int .i64 b0), (Value.int .i64 b1)])).run Tryd.prog w = .ok (decide (a0 = b0 ∧ a1 = b1)) w := by
  have u3 := Tryd.underlying3
  have i3 := Tryd.isAgg3
  have s3 := Tryd.sizeOf3
  have hS : Tryd.prog.underlying 209 = some (.struct (Tryd.prog.fieldsOf 209)) := by kernel_rfl
  rw [run_equalIn_agg w (d + 1) 209 _ _ hS (by kernel_rfl)]
  simp only [Program.fieldsOf, Tryd.underlying209]
  go_simp
  try simp only [b0z]
  by_cases h0 : a0 = b0
  · by_cases h1 : a1 = b1
    · simp [h0, h1]
    · simp [h0, h1]
  · simp [h0]
theorem a0D (x y : Operand) (a0 b0 : Int) (a1 b1 : Int) : Pu Tryd.prog (xBin .eql 209 x y (.agg #[(Value.int .i64 a0), (Value.int .i64 a1)]) (.agg #[(Value.int .i64 b0), (Value.int .i64 b1)])) (.bool (decide (a0 = b0 ∧ a1 = b1))) := by
  refine Pu.ok (s := do eqGuard .eql 209 x y (.agg #[(Value.int .i64 a0), (Value.int .i64 a1)]) (.agg #[(Value.int .i64 b0), (Value.int .i64 b1)]); binOp .eql 209 (.agg #[(Value.int .i64 a0), (Value.int .i64 a1)]) (.agg #[(Value.int .i64 b0), (Value.int .i64 b1)])) fun w => ?_
  rw [Sem.run_bind, run_eqGuard_agg w _ _ _ _ _ _ (by kernel_rfl), Result.andThen_ok, run_eql_struct, show (10000 : Nat) = 9998 + 2 from rfl, c1i]
  rfl
theorem b3K  : Pu Tryd.prog (xV (Instr.build 209 #[])) (.agg #[(Value.int .i64 0), (Value.int .i64 0)]) := Pu.ok fun w => by kernel_rfl
theorem p9 (a0 : Int) (a1 : Int) : Pu Tryd.prog (xV (Instr.build 213 #[(0, (Value.int .i64 a0)), (1, (Value.int .i64 a1))])) (.agg #[(Value.int .i64 a0), (Value.int .i64 a1)]) := Pu.ok fun w => by kernel_rfl
theorem c1j (d : Nat) (a0 b0 : Int) (a1 b1 : Int) (w : World) : (Op.equalIn (d + 2) 213 (.agg #[(Value.int .i64 a0), (Value.int .i64 a1)]) (.agg #[(Value.int .i64 b0), (Value.int .i64 b1)])).run Tryd.prog w = .ok (decide (a0 = b0 ∧ a1 = b1)) w := by
  have u3 := Tryd.underlying3
  have i3 := Tryd.isAgg3
  have s3 := Tryd.sizeOf3
  have hS : Tryd.prog.underlying 213 = some (.struct (Tryd.prog.fieldsOf 213)) := by kernel_rfl
  rw [run_equalIn_agg w (d + 1) 213 _ _ hS (by kernel_rfl)]
  simp only [Program.fieldsOf, Tryd.underlying213]
  go_simp
  try simp only [b0z]
  by_cases h0 : a0 = b0
  · by_cases h1 : a1 = b1
    · simp [h0, h1]
    · simp [h0, h1]
  · simp [h0]
theorem y6 (x y : Operand) (a0 b0 : Int) (a1 b1 : Int) : Pu Tryd.prog (xBin .eql 213 x y (.agg #[(Value.int .i64 a0), (Value.int .i64 a1)]) (.agg #[(Value.int .i64 b0), (Value.int .i64 b1)])) (.bool (decide (a0 = b0 ∧ a1 = b1))) := by
  refine Pu.ok (s := do eqGuard .eql 213 x y (.agg #[(Value.int .i64 a0), (Value.int .i64 a1)]) (.agg #[(Value.int .i64 b0), (Value.int .i64 b1)]); binOp .eql 213 (.agg #[(Value.int .i64 a0), (Value.int .i64 a1)]) (.agg #[(Value.int .i64 b0), (Value.int .i64 b1)])) fun w => ?_
  rw [Sem.run_bind, run_eqGuard_agg w _ _ _ _ _ _ (by kernel_rfl), Result.andThen_ok, run_eql_struct, show (10000 : Nat) = 9998 + 2 from rfl, c1j]
  rfl
theorem a4E  : Pu Tryd.prog (xV (Instr.build 213 #[])) (.agg #[(Value.int .i64 0), (Value.int .i64 0)]) := Pu.ok fun w => by kernel_rfl
theorem b7W (a0a : Option Addr) (a0n a0c : Nat) (a1a : Option Addr) (a1n a1c : Nat) (a2a : Option Addr) (a2n a2c : Nat) (a3a : Option Addr) (a3n a3c : Nat) (w : World) : (Instr.buildSlice 172 4 #[(0, (Value.slice a0a a0n a0c)), (1, (Value.slice a1a a1n a1c)), (2, (Value.slice a2a a2n a2c)), (3, (Value.slice a3a a3n a3c))]).run Tryd.prog w = .ok (.slice (some ⟨w.heap.size, 0, none⟩) 4 4) (w.alloc (.cells [(Value.slice a0a a0n a0c), (Value.slice a1a a1n a1c), (Value.slice a2a a2n a2c), (Value.slice a3a a3n a3c)].toArray 97)) := by kernel_rfl
abbrev p7 (x : u7) : List Value := [(Value.slice x.X0.a x.X0.n x.X0.c), (Value.slice x.a3z.a x.a3z.n x.a3z.c)]
abbrev Y8 (x : b6) : List Value := [(Value.int .i64 x.fnodes), (Value.int .i64 x.fdepth), (Value.int .i64 x.fe), (Value.bool x.fform), (Value.bool x.fnamed), (Value.slice x.fnames.a x.fnames.n x.fnames.c)]
end Go.Proofs.YthldnpmfelniiaaDoor
