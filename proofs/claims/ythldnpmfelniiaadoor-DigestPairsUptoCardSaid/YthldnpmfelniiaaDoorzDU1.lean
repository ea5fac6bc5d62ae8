/- Single operations at this program's types, and its structures; printed by lift.py. -/
import Derived.Test.YthldnpmfelniiaaDoorProg
import Derived.Test.YthldnpmfelniiaaDoorzDS4
import Derived.KernelRfl
import Derived.Laws.StructEq
import Derived.Laws.Tables
import Derived.Laws.Cover2
namespace Go.Proofs.YthldnpmfelniiaaDoor
open Go.RowKit
set_option maxRecDepth 100000
set_option maxHeartbeats 2000000
structure f6 where
  o7 : Sl
  K5 : Sl
structure h7 where
  d4 : Int
  F9 : Int
  d8 : ByteArray
  m9 : Sl
structure g9 where
  d4 : Int
  fOp : Int
  c7 : Sl
  j9 : Sl
structure A4 where
  d8 : ByteArray
  R7 : Int
structure d3w where
  d8 : ByteArray
  f5B : Bool
structure E9 where
  i7 : h7
structure f4 where
  fnodes : Int
  fdepth : Int
  fe : Int
  fform : Bool
  fnamed : Bool
  fnames : Sl
structure b4 where
  fn : Int
  fdepth : Int
  fbad : Int
structure b5y where
  fok : Bool
  fnames : Bool
structure L1 where
  i5 : g9
structure g8 where
  d4 : Int
  d8 : ByteArray
  c7 : Sl
  f5 : Sl
  r9 : Sl
  o6 : Sl
structure a2d where
  f0 : Int
  f1 : Int
  f2 : Int
  f3 : Int
structure N8 where
  M8 : A4
structure L2 where
  c9 : g8
structure E2 where
  fexprs : Int
  fparts : Int
structure t8 where
  fexprs : Int
  fconds : Int
inductive b9 where
  | nil
  | D1 (x : E9)
  | J3 (x : L1)
  | H9 (x : N8)
  | D6 (x : L2)
def u2 : b9 → Value
  | .nil => .nilIface
  | .D1 x => .iface 96 (.agg #[(Value.int .i64 x.i7.d4), (Value.int .i64 x.i7.F9), (Value.string x.i7.d8), (Value.slice x.i7.m9.a x.i7.m9.n x.i7.m9.c)])
  | .J3 x => .iface 106 (.agg #[(Value.int .i64 x.i5.d4), (Value.int .i64 x.i5.fOp), (Value.slice x.i5.c7.a x.i5.c7.n x.i5.c7.c), (Value.slice x.i5.j9.a x.i5.j9.n x.i5.j9.c)])
  | .H9 x => .iface 175 (.agg #[(Value.string x.M8.d8), (Value.int .i64 x.M8.R7)])
  | .D6 x => .iface 177 (.agg #[(Value.int .i64 x.c9.d4), (Value.string x.c9.d8), (Value.slice x.c9.c7.a x.c9.c7.n x.c9.c7.c), (Value.slice x.c9.f5.a x.c9.f5.n x.c9.f5.c), (Value.slice x.c9.r9.a x.c9.r9.n x.c9.r9.c), (Value.slice x.c9.o6.a x.c9.o6.n x.c9.o6.c)])
theorem b9c (x : b9) : [u2 x].all (·.oneCell') = true := by cases x <;> rfl
def b9.m8 : b9 → E9
  | .D1 x => x
  | _ => (E9.mk (h7.mk 0 0 ⟨#[]⟩ (Sl.mk none 0 0)))
def b9.a6O : b9 → Bool
  | .D1 _ => true
  | _ => false
def b9.T1 : b9 → N8
  | .H9 x => x
  | _ => (N8.mk (A4.mk ⟨#[]⟩ 0))
def b9.a6P : b9 → Bool
  | .H9 _ => true
  | _ => false
def b9.f8 : b9 → L2
  | .D6 x => x
  | _ => (L2.mk (g8.mk 0 ⟨#[]⟩ (Sl.mk none 0 0) (Sl.mk none 0 0) (Sl.mk none 0 0) (Sl.mk none 0 0)))
def b9.a6Q : b9 → Bool
  | .D6 _ => true
  | _ => false
theorem d0y (x y : Operand) (a b : Bool) : Pu Tryd.prog (xBin .eql 4 x y (.bool a) (.bool b)) (.bool (a == b)) := d7r _ _ _ a b Tryd.underlying4
abbrev o0 (x : Int) : List Value := [(Value.int .u8 x)]
theorem a5N (x : Int) : (o0 x).length = 1 := rfl
theorem a5O (x : Int) : (o0 x).all (·.oneCell') = true := rfl
theorem d3x : Tryd.prog.info? 5 = some ((Tryd.prog.info? 5).getD default) := by kernel_rfl
theorem b6z {E : Pan} {w0 w : World} {ps : Nat → Prop} {H0 H : Hp} {Fs : List Frag} {K : Value → World → Prop} {s : Sl} {xs : List Int} {F : Frag} {t2 : Sl} {ys : List Int} {ks : List Bool} {ty : TypeId} (I : Inv w0 ps H0 H (F :: Fs) w) (hr : RowL 5 1 o0 s xs F) (hs : SrcO w o0 t2 ys) (hb : (xs.length + ys.length) * 2 ≤ 140737488355328) (h : ∀ (s' : Sl) (F' : Frag) (w' : World), RowL 5 1 o0 s' (xs ++ ys) F' → Inv w0 ps H0 H (F' :: Fs) w' → (∀ k, k < w.heap.size → (∀ p ∈ F, p.1 ≠ k) → w'.heap[k]? = w.heap[k]?) → K (.slice s'.a s'.n s'.c) w') : opK Tryd.prog E (xBuiltin .append #[40, 40] ty ks [.slice s.a s.n s.c, .slice t2.a t2.n t2.c]) w K :=
  c4s (bytes := 1) Tryd.underlying40 d3x (z := (Value.int .u8 0)) (by kernel_rfl) (by kernel_rfl) (by kernel_rfl) (by kernel_rfl) I hr hs hb h
theorem b4F (a0 : Int) (w : World) : (Instr.buildSlice 40 1 #[(0, (Value.int .u8 a0))]).run Tryd.prog w = .ok (.slice (some ⟨w.heap.size, 0, none⟩) 1 1) (w.alloc (.cells [(Value.int .u8 a0)].toArray 5)) := by kernel_rfl
theorem c4v (k : IntKind) (n : Int) : Pu Tryd.prog (xV (convert 5 41 (.int k n))) (.int .u64 (IntKind.wrap .u64 n)) := Pu.ok fun w => run_convert_int (P := Tryd.prog) (w := w) 5 41 k n (by rw [Tryd.underlying5]; rfl) Tryd.underlying41
theorem J9 {g o : Nat} : Pu Tryd.prog (xV (Instr.fieldAt 25 (.pointer (some ⟨g, o, none⟩)) 0)) (.pointer (some ⟨g, o + 0, none⟩)) := Pu.ok fun w => by kernel_rfl
theorem X0 (a : Option Addr) (n c : Nat) : Pu Tryd.prog (xBuiltin .len #[22] 3 [false] [.slice a n c]) (.int .i64 (n : Int)) := a0M Tryd.underlying22 a n c
theorem a6R {a : Option Addr} {g o : Nat} (ha : a = some ⟨g, o, none⟩) (len cap : Nat) (k : IntKind) (i : Int) (h0 : 0 ≤ i) (h1 : i < len) : Pu Tryd.prog (xV (Instr.indexAt 22 (.slice a len cap) (.int k i))) (.pointer (some ⟨g, o + i.toNat * 2, none⟩)) := a2f Tryd.underlying22 Tryd.sizeOf67 ha len cap k i h0 h1
theorem b6A {g o : Nat} : Pu Tryd.prog (xV (Instr.fieldAt 67 (.pointer (some ⟨g, o, none⟩)) 0)) (.pointer (some ⟨g, o + 0, none⟩)) := Pu.ok fun w => by kernel_rfl
theorem b8R (a : Option Addr) (n c : Nat) : Pu Tryd.prog (xBuiltin .len #[40] 3 [false] [.slice a n c]) (.int .i64 (n : Int)) := a0M Tryd.underlying40 a n c
theorem M9 {g o : Nat} : Pu Tryd.prog (xV (Instr.fieldAt 25 (.pointer (some ⟨g, o, none⟩)) 1)) (.pointer (some ⟨g, o + 1, none⟩)) := Pu.ok fun w => by kernel_rfl
abbrev k8 (x : A4) : List Value := [(Value.string x.d8), (Value.int .i64 x.R7)]
theorem b9d (x : A4) : (k8 x).length = 2 := rfl
theorem b9e (x : A4) : (k8 x).all (·.oneCell') = true := rfl
theorem d4v (a5P : ByteArray) (a5Q : Int) (w : World) : (Instr.buildSlice 22 1 #[(0, (Value.agg #[(Value.string a5P), (Value.int .i64 a5Q)]))]).run Tryd.prog w = .ok (.slice (some ⟨w.heap.size, 0, none⟩) 1 1) (w.alloc (.cells [(Value.string a5P), (Value.int .i64 a5Q)].toArray 67)) := by kernel_rfl
theorem M6 (a : Option Addr) (n c : Nat) : Pu Tryd.prog (xBuiltin .len #[23] 3 [false] [.slice a n c]) (.int .i64 (n : Int)) := a0M Tryd.underlying23 a n c
theorem d7v (d : Nat) (a0 b0 : ByteArray) (a1 b1 : Int) (w : World) : (Op.equalIn (d + 2) 67 (.agg #[(Value.string a0), (Value.int .i64 a1)]) (.agg #[(Value.string b0), (Value.int .i64 b1)])).run Tryd.prog w = .ok (decide (a0 = b0 ∧ a1 = b1)) w := by
  have u9 := Tryd.underlying9
  have i9 := Tryd.isAgg9
  have s9 := Tryd.sizeOf9
  have u3 := Tryd.underlying3
  have i3 := Tryd.isAgg3
  have s3 := Tryd.sizeOf3
  have hS : Tryd.prog.underlying 67 = some (.struct (Tryd.prog.fieldsOf 67)) := by kernel_rfl
  rw [run_equalIn_agg w (d + 1) 67 _ _ hS (by kernel_rfl)]
  simp only [Program.fieldsOf, Tryd.underlying67]
  go_simp
  try simp only [b5v]
  by_cases h0 : a0 = b0
  · by_cases h1 : a1 = b1
    · simp [h0, h1]
    · simp [h0, h1]
  · simp [h0]
theorem b9I (x y : Operand) (a0 b0 : ByteArray) (a1 b1 : Int) : Pu Tryd.prog (xBin .neq 67 x y (.agg #[(Value.string a0), (Value.int .i64 a1)]) (.agg #[(Value.string b0), (Value.int .i64 b1)])) (.bool (!decide (a0 = b0 ∧ a1 = b1))) := by
  refine Pu.ok (s := do eqGuard .neq 67 x y (.agg #[(Value.string a0), (Value.int .i64 a1)]) (.agg #[(Value.string b0), (Value.int .i64 b1)]); binOp .neq 67 (.agg #[(Value.string a0), (Value.int .i64 a1)]) (.agg #[(Value.string b0), (Value.int .i64 b1)])) fun w => ?_
  rw [Sem.run_bind, run_eqGuard_agg w _ _ _ _ _ _ (by kernel_rfl), Result.andThen_ok, run_neq_struct, show (10000 : Nat) = 9998 + 2 from rfl, d7v]
  rfl
theorem c3x (a5P : Int) (a5Q : Int) (d7w : ByteArray) (a0_3a : Option Addr) (a0_3n a0_3c : Nat) : Pu Tryd.prog (xV (Instr.build 96 #[(0, (Value.agg #[(Value.int .i64 a5P), (Value.int .i64 a5Q), (Value.string d7w), (Value.slice a0_3a a0_3n a0_3c)]))])) (.agg #[(Value.int .i64 a5P), (Value.int .i64 a5Q), (Value.string d7w), (Value.slice a0_3a a0_3n a0_3c)]) := Pu.ok fun w => by kernel_rfl
theorem b2V (x : E9) : Pu Tryd.prog (xV (Instr.makeInterface 96 (.agg #[(Value.int .i64 x.i7.d4), (Value.int .i64 x.i7.F9), (Value.string x.i7.d8), (Value.slice x.i7.m9.a x.i7.m9.n x.i7.m9.c)]))) (u2 (b9.D1 x)) := Pu.ok fun w => rfl
abbrev m6 (x : b9) : List Value := [(u2 x)]
theorem N0 (x : b9) : (m6 x).length = 1 := rfl
theorem R1 (x : b9) : (m6 x).all (·.oneCell') = true := b9c x
theorem b4G (a0 : b9) (w : World) : (Instr.buildSlice 97 1 #[(0, (u2 a0))]).run Tryd.prog w = .ok (.slice (some ⟨w.heap.size, 0, none⟩) 1 1) (w.alloc (.cells [(u2 a0)].toArray 141)) := by cases a0 <;> kernel_rfl
theorem a5R {g o : Nat} : Pu Tryd.prog (xV (Instr.fieldAt 92 (.pointer (some ⟨g, o, none⟩)) 2)) (.pointer (some ⟨g, o + 2, none⟩)) := Pu.ok fun w => by kernel_rfl
theorem c8b  : Pu Tryd.prog (xV (Instr.build 99 #[])) (.agg #[(Value.int .i64 0), (Value.int .i64 0), (Value.int .i64 0)]) := Pu.ok fun w => by kernel_rfl
theorem u1 {g o : Nat} : Pu Tryd.prog (xV (Instr.fieldAt 99 (.pointer (some ⟨g, o, none⟩)) 2)) (.pointer (some ⟨g, o + 2, none⟩)) := Pu.ok fun w => by kernel_rfl
theorem b1D {g o : Nat} : Pu Tryd.prog (xV (Instr.fieldAt 99 (.pointer (some ⟨g, o, none⟩)) 0)) (.pointer (some ⟨g, o + 0, none⟩)) := Pu.ok fun w => by kernel_rfl
theorem b6B {g o : Nat} : Pu Tryd.prog (xV (Instr.fieldAt 99 (.pointer (some ⟨g, o, none⟩)) 1)) (.pointer (some ⟨g, o + 1, none⟩)) := Pu.ok fun w => by kernel_rfl
theorem F0 {g o : Nat} : Pu Tryd.prog (xV (Instr.fieldAt 30 (.pointer (some ⟨g, o, none⟩)) 3)) (.pointer (some ⟨g, o + 3, none⟩)) := Pu.ok fun w => by kernel_rfl
theorem q7 (a : Option Addr) (n c : Nat) : Pu Tryd.prog (xBuiltin .len #[28] 3 [false] [.slice a n c]) (.int .i64 (n : Int)) := a0M Tryd.underlying28 a n c
theorem W4 {a : Option Addr} {g o : Nat} (ha : a = some ⟨g, o, none⟩) (len cap : Nat) (k : IntKind) (i : Int) (h0 : 0 ≤ i) (h1 : i < len) : Pu Tryd.prog (xV (Instr.indexAt 28 (.slice a len cap) (.int k i))) (.pointer (some ⟨g, o + i.toNat * 4, none⟩)) := a2f Tryd.underlying28 Tryd.sizeOf30 ha len cap k i h0 h1
theorem Y0 {g o : Nat} : Pu Tryd.prog (xV (Instr.fieldAt 30 (.pointer (some ⟨g, o, none⟩)) 0)) (.pointer (some ⟨g, o + 0, none⟩)) := Pu.ok fun w => by kernel_rfl
theorem K0 {g o : Nat} : Pu Tryd.prog (xV (Instr.fieldAt 30 (.pointer (some ⟨g, o, none⟩)) 2)) (.pointer (some ⟨g, o + 2, none⟩)) := Pu.ok fun w => by kernel_rfl
theorem L3 {g o : Nat} : Pu Tryd.prog (xV (Instr.fieldAt 30 (.pointer (some ⟨g, o, none⟩)) 1)) (.pointer (some ⟨g, o + 1, none⟩)) := Pu.ok fun w => by kernel_rfl
theorem b9J (a5P : Int) (a5Q : Int) (a0_2a : Option Addr) (a0_2n a0_2c : Nat) (a0_3a : Option Addr) (a0_3n a0_3c : Nat) : Pu Tryd.prog (xV (Instr.build 106 #[(0, (Value.agg #[(Value.int .i64 a5P), (Value.int .i64 a5Q), (Value.slice a0_2a a0_2n a0_2c), (Value.slice a0_3a a0_3n a0_3c)]))])) (.agg #[(Value.int .i64 a5P), (Value.int .i64 a5Q), (Value.slice a0_2a a0_2n a0_2c), (Value.slice a0_3a a0_3n a0_3c)]) := Pu.ok fun w => by kernel_rfl
theorem b7J (x : L1) : Pu Tryd.prog (xV (Instr.makeInterface 106 (.agg #[(Value.int .i64 x.i5.d4), (Value.int .i64 x.i5.fOp), (Value.slice x.i5.c7.a x.i5.c7.n x.i5.c7.c), (Value.slice x.i5.j9.a x.i5.j9.n x.i5.j9.c)]))) (u2 (b9.J3 x)) := Pu.ok fun w => rfl
theorem F1 {g o : Nat} : Pu Tryd.prog (xV (Instr.fieldAt 33 (.pointer (some ⟨g, o, none⟩)) 2)) (.pointer (some ⟨g, o + 2, none⟩)) := Pu.ok fun w => by kernel_rfl
theorem F3 {g o : Nat} : Pu Tryd.prog (xV (Instr.fieldAt 33 (.pointer (some ⟨g, o, none⟩)) 3)) (.pointer (some ⟨g, o + 3, none⟩)) := Pu.ok fun w => by kernel_rfl
theorem C8 (a : Option Addr) (n c : Nat) : Pu Tryd.prog (xBuiltin .len #[31] 3 [false] [.slice a n c]) (.int .i64 (n : Int)) := a0M Tryd.underlying31 a n c
theorem a1E {a : Option Addr} {g o : Nat} (ha : a = some ⟨g, o, none⟩) (len cap : Nat) (k : IntKind) (i : Int) (h0 : 0 ≤ i) (h1 : i < len) : Pu Tryd.prog (xV (Instr.indexAt 31 (.slice a len cap) (.int k i))) (.pointer (some ⟨g, o + i.toNat * 4, none⟩)) := a2f Tryd.underlying31 Tryd.sizeOf33 ha len cap k i h0 h1
theorem a2V {g o : Nat} : Pu Tryd.prog (xV (Instr.fieldAt 33 (.pointer (some ⟨g, o, none⟩)) 0)) (.pointer (some ⟨g, o + 0, none⟩)) := Pu.ok fun w => by kernel_rfl
theorem K1 {g o : Nat} : Pu Tryd.prog (xV (Instr.fieldAt 33 (.pointer (some ⟨g, o, none⟩)) 1)) (.pointer (some ⟨g, o + 1, none⟩)) := Pu.ok fun w => by kernel_rfl
theorem c3y (a0 : ByteArray) : Pu Tryd.prog (xV (Instr.build 67 #[(0, (Value.string a0))])) (.agg #[(Value.string a0), (Value.int .i64 0)]) := Pu.ok fun w => by kernel_rfl
theorem c3z (a0a : Option Addr) (a0n a0c : Nat) : Pu Tryd.prog (xV (Instr.build 25 #[(0, (Value.slice a0a a0n a0c))])) (.agg #[(Value.slice a0a a0n a0c), (Value.slice none 0 0)]) := Pu.ok fun w => by kernel_rfl
theorem b9K {a : Option Addr} {g o : Nat} (ha : a = some ⟨g, o, none⟩) (len cap : Nat) (k : IntKind) (i : Int) (h0 : 0 ≤ i) (h1 : i < len) : Pu Tryd.prog (xV (Instr.indexAt 40 (.slice a len cap) (.int k i))) (.pointer (some ⟨g, o + i.toNat * 1, none⟩)) := a2f Tryd.underlying40 Tryd.sizeOf5 ha len cap k i h0 h1
theorem a5S {g o : Nat} : Pu Tryd.prog (xV (Instr.fieldAt 67 (.pointer (some ⟨g, o, none⟩)) 1)) (.pointer (some ⟨g, o + 1, none⟩)) := Pu.ok fun w => by kernel_rfl
theorem a2W {a : Option Addr} {g o : Nat} (ha : a = some ⟨g, o, none⟩) (len cap : Nat) (k : IntKind) (i : Int) (h0 : 0 ≤ i) (h1 : i < len) : Pu Tryd.prog (xV (Instr.indexAt 23 (.slice a len cap) (.int k i))) (.pointer (some ⟨g, o + i.toNat * 6, none⟩)) := a2f Tryd.underlying23 Tryd.sizeOf88 ha len cap k i h0 h1
theorem a0E {g o : Nat} : Pu Tryd.prog (xV (Instr.fieldAt 88 (.pointer (some ⟨g, o, none⟩)) 0)) (.pointer (some ⟨g, o + 0, none⟩)) := Pu.ok fun w => by kernel_rfl
theorem L4 {g o : Nat} : Pu Tryd.prog (xV (Instr.fieldAt 88 (.pointer (some ⟨g, o, none⟩)) 1)) (.pointer (some ⟨g, o + 1, none⟩)) := Pu.ok fun w => by kernel_rfl
theorem F4 {g o : Nat} : Pu Tryd.prog (xV (Instr.fieldAt 88 (.pointer (some ⟨g, o, none⟩)) 2)) (.pointer (some ⟨g, o + 2, none⟩)) := Pu.ok fun w => by kernel_rfl
theorem F5 {g o : Nat} : Pu Tryd.prog (xV (Instr.fieldAt 88 (.pointer (some ⟨g, o, none⟩)) 3)) (.pointer (some ⟨g, o + 3, none⟩)) := Pu.ok fun w => by kernel_rfl
theorem K2 {g o : Nat} : Pu Tryd.prog (xV (Instr.fieldAt 88 (.pointer (some ⟨g, o, none⟩)) 4)) (.pointer (some ⟨g, o + 4, none⟩)) := Pu.ok fun w => by kernel_rfl
theorem F6 {g o : Nat} : Pu Tryd.prog (xV (Instr.fieldAt 88 (.pointer (some ⟨g, o, none⟩)) 5)) (.pointer (some ⟨g, o + 5, none⟩)) := Pu.ok fun w => by kernel_rfl
theorem b6C {g o : Nat} : Pu Tryd.prog (xV (Instr.fieldAt 92 (.pointer (some ⟨g, o, none⟩)) 1)) (.pointer (some ⟨g, o + 1, none⟩)) := Pu.ok fun w => by kernel_rfl
theorem b1E {g o : Nat} : Pu Tryd.prog (xV (Instr.fieldAt 92 (.pointer (some ⟨g, o, none⟩)) 0)) (.pointer (some ⟨g, o + 0, none⟩)) := Pu.ok fun w => by kernel_rfl
theorem b1F {g o : Nat} : Pu Tryd.prog (xV (Instr.fieldAt 92 (.pointer (some ⟨g, o, none⟩)) 5)) (.pointer (some ⟨g, o + 5, none⟩)) := Pu.ok fun w => by kernel_rfl
theorem d0z {a : Option Addr} {g o : Nat} (ha : a = some ⟨g, o, none⟩) (len cap : Nat) (k : IntKind) (i : Int) (h0 : 0 ≤ i) (h1 : i < len) : Pu Tryd.prog (xV (Instr.indexAt 47 (.slice a len cap) (.int k i))) (.pointer (some ⟨g, o + i.toNat * 1, none⟩)) := a2f Tryd.underlying47 Tryd.sizeOf9 ha len cap k i h0 h1
abbrev C9 (x : ByteArray) : List Value := [(Value.string x)]
theorem b5n (x : ByteArray) : (C9 x).length = 1 := rfl
theorem b5o (x : ByteArray) : (C9 x).all (·.oneCell') = true := rfl
theorem c4w : Pu Tryd.prog (xV (Instr.build 114 #[])) (.agg #[.int .i64 0, .int .i64 0, .int .i64 0, .int .i64 0]) := Pu.ok fun w => by kernel_rfl
theorem b8S (k : IntKind) (n : Int) : Pu Tryd.prog (xV (convert 3 5 (.int k n))) (.int .u8 (IntKind.wrap .u8 n)) := Pu.ok fun w => run_convert_int (P := Tryd.prog) (w := w) 3 5 k n (by rw [Tryd.underlying3]; rfl) Tryd.underlying5
theorem d4w (a0 : Int) (a1 : Int) (w : World) : (Instr.buildSlice 40 2 #[(0, (Value.int .u8 a0)), (1, (Value.int .u8 a1))]).run Tryd.prog w = .ok (.slice (some ⟨w.heap.size, 0, none⟩) 2 2) (w.alloc (.cells [(Value.int .u8 a0), (Value.int .u8 a1)].toArray 5)) := by kernel_rfl
theorem c4x (k : IntKind) (n : Int) : Pu Tryd.prog (xV (convert 2 41 (.int k n))) (.int .u64 (IntKind.wrap .u64 n)) := Pu.ok fun w => run_convert_int (P := Tryd.prog) (w := w) 2 41 k n (by rw [Tryd.underlying2]; rfl) Tryd.underlying41
theorem c4y (k : IntKind) (n : Int) : Pu Tryd.prog (xV (convert 41 5 (.int k n))) (.int .u8 (IntKind.wrap .u8 n)) := Pu.ok fun w => run_convert_int (P := Tryd.prog) (w := w) 41 5 k n (by rw [Tryd.underlying41]; rfl) Tryd.underlying5
theorem c8c {E : Pan} {w0 w : World} {ps : Nat → Prop} {H0 H : Hp} {Fs : List Frag} {K : Value → World → Prop} {s : Sl} {xs : List Int} {F : Frag} {b : ByteArray} {ks : List Bool} {ty : TypeId} (I : Inv w0 ps H0 H (F :: Fs) w) (hr : RowL 5 1 o0 s xs F) (hb : (xs.length + b.size) * 2 ≤ 140737488355328) (h : ∀ (s' : Sl) (F' : Frag) (w' : World), RowL 5 1 o0 s' (xs ++ sbytes b) F' → Inv w0 ps H0 H (F' :: Fs) w' → (∀ k, k < w.heap.size → (∀ p ∈ F, p.1 ≠ k) → w'.heap[k]? = w.heap[k]?) → K (.slice s'.a s'.n s'.c) w') : opK Tryd.prog E (xBuiltin .append #[40, 9] ty ks [.slice s.a s.n s.c, .string b]) w K :=
  d0x (bytes := 1) (fun _ => rfl) Tryd.underlying40 Tryd.underlying9 d3x (by kernel_rfl) (by kernel_rfl) (by kernel_rfl) I hr b hb h
theorem c4z (a0 a1 a2 a3 : Int) (k : IntKind) (i : Int) (h0 : 0 ≤ i) (h1 : i < 4) : Pu Tryd.prog (xV (Instr.index 114 (.agg #[.int .i64 a0, .int .i64 a1, .int .i64 a2, .int .i64 a3]) (.int k i))) (.int .i64 (([a0, a1, a2, a3] : List Int).getD i.toNat 0)) := by
  obtain rfl | rfl | rfl | rfl := (by omega : i = 0 ∨ i = 1 ∨ i = 2 ∨ i = 3)
  · exact Pu.ok fun w => by kernel_rfl
  · exact Pu.ok fun w => by kernel_rfl
  · exact Pu.ok fun w => by kernel_rfl
  · exact Pu.ok fun w => by kernel_rfl
theorem b3i (a0 a1 a2 a3 : Int) : Pu Tryd.prog (xV (Instr.build 114 #[(0, .int .i64 a0), (1, .int .i64 a1), (2, .int .i64 a2), (3, .int .i64 a3)])) (.agg #[.int .i64 a0, .int .i64 a1, .int .i64 a2, .int .i64 a3]) := Pu.ok fun w => by kernel_rfl
theorem b0Y (a0 a1 : Int) : Pu Tryd.prog (xV (Instr.build 114 #[(0, .int .i64 a0), (1, .int .i64 a1)])) (.agg #[.int .i64 a0, .int .i64 a1, .int .i64 0, .int .i64 0]) := Pu.ok fun w => by kernel_rfl
theorem d4x (a0 : ByteArray) (w : World) : (Instr.buildSlice 47 1 #[(0, (Value.string a0))]).run Tryd.prog w = .ok (.slice (some ⟨w.heap.size, 0, none⟩) 1 1) (w.alloc (.cells [(Value.string a0)].toArray 9)) := by kernel_rfl
theorem e9d : Tryd.prog.info? 9 = some ((Tryd.prog.info? 9).getD default) := by kernel_rfl
theorem d7x {E : Pan} {w0 w : World} {ps : Nat → Prop} {H0 H : Hp} {Fs : List Frag} {K : Value → World → Prop} {s : Sl} {xs : List ByteArray} {F : Frag} {t2 : Sl} {ys : List ByteArray} {ks : List Bool} {ty : TypeId} (I : Inv w0 ps H0 H (F :: Fs) w) (hr : RowL 9 1 C9 s xs F) (hs : SrcO w C9 t2 ys) (hb : (xs.length + ys.length) * 17 ≤ 140737488355328) (h : ∀ (s' : Sl) (F' : Frag) (w' : World), RowL 9 1 C9 s' (xs ++ ys) F' → Inv w0 ps H0 H (F' :: Fs) w' → (∀ k, k < w.heap.size → (∀ p ∈ F, p.1 ≠ k) → w'.heap[k]? = w.heap[k]?) → K (.slice s'.a s'.n s'.c) w') : opK Tryd.prog E (xBuiltin .append #[47, 47] ty ks [.slice s.a s.n s.c, .slice t2.a t2.n t2.c]) w K :=
  c4s (bytes := 16) Tryd.underlying47 e9d (z := (Value.string ⟨#[]⟩)) (by kernel_rfl) (by kernel_rfl) (by kernel_rfl) (by kernel_rfl) I hr hs hb h
abbrev c8 (x : h7) : List Value := [(Value.int .i64 x.d4), (Value.int .i64 x.F9), (Value.string x.d8), (Value.slice x.m9.a x.m9.n x.m9.c)]
abbrev b8 (x : g8) : List Value := [(Value.int .i64 x.d4), (Value.string x.d8), (Value.slice x.c7.a x.c7.n x.c7.c), (Value.slice x.f5.a x.f5.n x.f5.c), (Value.slice x.r9.a x.r9.n x.r9.c), (Value.slice x.o6.a x.o6.n x.o6.c)]
theorem c3A {a0 a1 a2 : Value} : Pu Tryd.prog (xV (Instr.field 99 (.agg #[a0, a1, a2]) 2)) a2 := Pu.ok fun w => by kernel_rfl
theorem c8d  : Pu Tryd.prog (xV (Instr.build 92 #[])) (.agg #[(Value.int .i64 0), (Value.int .i64 0), (Value.int .i64 0), (Value.bool false), (Value.bool false), (Value.slice none 0 0)]) := Pu.ok fun w => by kernel_rfl
theorem a9R (a : Option Addr) (n c : Nat) : Pu Tryd.prog (xBuiltin .len #[97] 3 [false] [.slice a n c]) (.int .i64 (n : Int)) := a0M Tryd.underlying97 a n c
theorem d0A {a : Option Addr} {g o : Nat} (ha : a = some ⟨g, o, none⟩) (len cap : Nat) (k : IntKind) (i : Int) (h0 : 0 ≤ i) (h1 : i < len) : Pu Tryd.prog (xV (Instr.indexAt 97 (.slice a len cap) (.int k i))) (.pointer (some ⟨g, o + i.toNat * 1, none⟩)) := a2f Tryd.underlying97 Tryd.sizeOf141 ha len cap k i h0 h1
theorem b1G {g o : Nat} : Pu Tryd.prog (xV (Instr.fieldAt 92 (.pointer (some ⟨g, o, none⟩)) 3)) (.pointer (some ⟨g, o + 3, none⟩)) := Pu.ok fun w => by kernel_rfl
theorem b1H {g o : Nat} : Pu Tryd.prog (xV (Instr.fieldAt 92 (.pointer (some ⟨g, o, none⟩)) 4)) (.pointer (some ⟨g, o + 4, none⟩)) := Pu.ok fun w => by kernel_rfl
theorem b9L (a0a : Option Addr) (a0n a0c : Nat) (a1a : Option Addr) (a1n a1c : Nat) (w : World) : (Instr.buildSlice 172 2 #[(0, (Value.slice a0a a0n a0c)), (1, (Value.slice a1a a1n a1c))]).run Tryd.prog w = .ok (.slice (some ⟨w.heap.size, 0, none⟩) 2 2) (w.alloc (.cells [(Value.slice a0a a0n a0c), (Value.slice a1a a1n a1c)].toArray 97)) := by kernel_rfl
abbrev c6 (x : g9) : List Value := [(Value.int .i64 x.d4), (Value.int .i64 x.fOp), (Value.slice x.c7.a x.c7.n x.c7.c), (Value.slice x.j9.a x.j9.n x.j9.c)]
theorem b6D (a : Option Addr) (n c : Nat) : Pu Tryd.prog (xBuiltin .len #[172] 3 [false] [.slice a n c]) (.int .i64 (n : Int)) := a0M Tryd.underlying172 a n c
theorem b8T {a : Option Addr} {g o : Nat} (ha : a = some ⟨g, o, none⟩) (len cap : Nat) (k : IntKind) (i : Int) (h0 : 0 ≤ i) (h1 : i < len) : Pu Tryd.prog (xV (Instr.indexAt 172 (.slice a len cap) (.int k i))) (.pointer (some ⟨g, o + i.toNat * 1, none⟩)) := a2f Tryd.underlying172 Tryd.sizeOf97 ha len cap k i h0 h1
theorem c8e (s : ByteArray) : Pu Tryd.prog (xV (Instr.makeInterface 9 (.string s))) (.iface 9 (.string s)) := Pu.ok fun w => by kernel_rfl
theorem c3N : Tryd.prog.info? 141 = some ((Tryd.prog.info? 141).getD default) := by kernel_rfl
theorem b3j {E : Pan} {w0 w : World} {ps : Nat → Prop} {H0 H : Hp} {Fs : List Frag} {K : Value → World → Prop} {s : Sl} {xs : List b9} {F : Frag} {t2 : Sl} {ys : List b9} {ks : List Bool} {ty : TypeId} (I : Inv w0 ps H0 H (F :: Fs) w) (hr : RowL 141 1 m6 s xs F) (hs : SrcO w m6 t2 ys) (hb : (xs.length + ys.length) * 17 ≤ 140737488355328) (h : ∀ (s' : Sl) (F' : Frag) (w' : World), RowL 141 1 m6 s' (xs ++ ys) F' → Inv w0 ps H0 H (F' :: Fs) w' → (∀ k, k < w.heap.size → (∀ p ∈ F, p.1 ≠ k) → w'.heap[k]? = w.heap[k]?) → K (.slice s'.a s'.n s'.c) w') : opK Tryd.prog E (xBuiltin .append #[97, 97] ty ks [.slice s.a s.n s.c, .slice t2.a t2.n t2.c]) w K :=
  c4s (bytes := 16) Tryd.underlying97 c3N (z := Value.nilIface) (by kernel_rfl) (by kernel_rfl) (by kernel_rfl) (by kernel_rfl) I hr hs hb h
theorem b9M (a5P : ByteArray) (a5Q : Int) : Pu Tryd.prog (xV (Instr.build 175 #[(0, (Value.agg #[(Value.string a5P), (Value.int .i64 a5Q)]))])) (.agg #[(Value.string a5P), (Value.int .i64 a5Q)]) := Pu.ok fun w => by kernel_rfl
theorem b7K (x : N8) : Pu Tryd.prog (xV (Instr.makeInterface 175 (.agg #[(Value.string x.M8.d8), (Value.int .i64 x.M8.R7)]))) (u2 (b9.H9 x)) := Pu.ok fun w => rfl
theorem b9N (a5P : Int) (a5Q : ByteArray) (a0_2a : Option Addr) (a0_2n a0_2c : Nat) (a0_3a : Option Addr) (a0_3n a0_3c : Nat) (a0_4a : Option Addr) (a0_4n a0_4c : Nat) (a0_5a : Option Addr) (a0_5n a0_5c : Nat) : Pu Tryd.prog (xV (Instr.build 177 #[(0, (Value.agg #[(Value.int .i64 a5P), (Value.string a5Q), (Value.slice a0_2a a0_2n a0_2c), (Value.slice a0_3a a0_3n a0_3c), (Value.slice a0_4a a0_4n a0_4c), (Value.slice a0_5a a0_5n a0_5c)]))])) (.agg #[(Value.int .i64 a5P), (Value.string a5Q), (Value.slice a0_2a a0_2n a0_2c), (Value.slice a0_3a a0_3n a0_3c), (Value.slice a0_4a a0_4n a0_4c), (Value.slice a0_5a a0_5n a0_5c)]) := Pu.ok fun w => by kernel_rfl
theorem b7L (x : L2) : Pu Tryd.prog (xV (Instr.makeInterface 177 (.agg #[(Value.int .i64 x.c9.d4), (Value.string x.c9.d8), (Value.slice x.c9.c7.a x.c9.c7.n x.c9.c7.c), (Value.slice x.c9.f5.a x.c9.f5.n x.c9.f5.c), (Value.slice x.c9.r9.a x.c9.r9.n x.c9.r9.c), (Value.slice x.c9.o6.a x.c9.o6.n x.c9.o6.c)]))) (u2 (b9.D6 x)) := Pu.ok fun w => rfl
theorem b9f (x : b9) : Pu Tryd.prog (xV (Instr.typeAssert (u2 x) 141 175 true)) (.tuple #[(Value.agg #[(Value.string ((((x.T1)).M8).d8)), (Value.int .i64 ((((x.T1)).M8).R7))]), .bool (x.a6P)]) := by
  cases x <;> exact Pu.ok fun w => by kernel_rfl
theorem a4B {g o : Nat} : Pu Tryd.prog (xV (Instr.fieldAt 175 (.pointer (some ⟨g, o, none⟩)) 0)) (.pointer (some ⟨g, o + 0, none⟩)) := Pu.ok fun w => by kernel_rfl
theorem b9g (x : b9) : Pu Tryd.prog (xV (Instr.typeAssert (u2 x) 141 177 true)) (.tuple #[(Value.agg #[(Value.int .i64 ((((x.f8)).c9).d4)), (Value.string ((((x.f8)).c9).d8)), (Value.slice ((((x.f8)).c9).c7).a ((((x.f8)).c9).c7).n ((((x.f8)).c9).c7).c), (Value.slice ((((x.f8)).c9).f5).a ((((x.f8)).c9).f5).n ((((x.f8)).c9).f5).c), (Value.slice ((((x.f8)).c9).r9).a ((((x.f8)).c9).r9).n ((((x.f8)).c9).r9).c), (Value.slice ((((x.f8)).c9).o6).a ((((x.f8)).c9).o6).n ((((x.f8)).c9).o6).c)]), .bool (x.a6Q)]) := by
  cases x <;> exact Pu.ok fun w => by kernel_rfl
theorem D7 {g o : Nat} : Pu Tryd.prog (xV (Instr.fieldAt 177 (.pointer (some ⟨g, o, none⟩)) 0)) (.pointer (some ⟨g, o + 0, none⟩)) := Pu.ok fun w => by kernel_rfl
theorem b9O (x : b9) : Pu Tryd.prog (xV (Instr.typeAssert (u2 x) 141 96 true)) (.tuple #[(Value.agg #[(Value.int .i64 ((((x.m8)).i7).d4)), (Value.int .i64 ((((x.m8)).i7).F9)), (Value.string ((((x.m8)).i7).d8)), (Value.slice ((((x.m8)).i7).m9).a ((((x.m8)).i7).m9).n ((((x.m8)).i7).m9).c)]), .bool (x.a6O)]) := by
  cases x <;> exact Pu.ok fun w => by kernel_rfl
theorem L5 {g o : Nat} : Pu Tryd.prog (xV (Instr.fieldAt 96 (.pointer (some ⟨g, o, none⟩)) 0)) (.pointer (some ⟨g, o + 0, none⟩)) := Pu.ok fun w => by kernel_rfl
theorem U7 {g o : Nat} : Pu Tryd.prog (xV (Instr.fieldAt 106 (.pointer (some ⟨g, o, none⟩)) 0)) (.pointer (some ⟨g, o + 0, none⟩)) := Pu.ok fun w => by kernel_rfl
theorem a1B (a0 : Int) (a1 : Int) : Pu Tryd.prog (xV (Instr.build 209 #[(0, (Value.int .i64 a0)), (1, (Value.int .i64 a1))])) (.agg #[(Value.int .i64 a0), (Value.int .i64 a1)]) := Pu.ok fun w => by kernel_rfl
theorem d4y (d : Nat) (a0 b0 : Int) (a1 b1 : Int) (w : World) : (Op.equalIn (d + 2) 209 (.agg #[(Value.int .i64 a0), (Value.int .i64 a1)]) (.agg #[(Value.int .i64 b0), (Value.int .i64 b1)])).run Tryd.prog w = .ok (decide (a0 = b0 ∧ a1 = b1)) w := by
  have u3 := Tryd.underlying3
  have i3 := Tryd.isAgg3
  have s3 := Tryd.sizeOf3
  have hS : Tryd.prog.underlying 209 = some (.struct (Tryd.prog.fieldsOf 209)) := by kernel_rfl
  rw [run_equalIn_agg w (d + 1) 209 _ _ hS (by kernel_rfl)]
  simp only [Program.fieldsOf, Tryd.underlying209]
  go_simp
  try simp only [b5v]
  by_cases h0 : a0 = b0
  · by_cases h1 : a1 = b1
    · simp [h0, h1]
    · simp [h0, h1]
  · simp [h0]
theorem a5x (x y : Operand) (a0 b0 : Int) (a1 b1 : Int) : Pu Tryd.prog (xBin .eql 209 x y (.agg #[(Value.int .i64 a0), (Value.int .i64 a1)]) (.agg #[(Value.int .i64 b0), (Value.int .i64 b1)])) (.bool (decide (a0 = b0 ∧ a1 = b1))) := by
  refine Pu.ok (s := do eqGuard .eql 209 x y (.agg #[(Value.int .i64 a0), (Value.int .i64 a1)]) (.agg #[(Value.int .i64 b0), (Value.int .i64 b1)]); binOp .eql 209 (.agg #[(Value.int .i64 a0), (Value.int .i64 a1)]) (.agg #[(Value.int .i64 b0), (Value.int .i64 b1)])) fun w => ?_
  rw [Sem.run_bind, run_eqGuard_agg w _ _ _ _ _ _ (by kernel_rfl), Result.andThen_ok, run_eql_struct, show (10000 : Nat) = 9998 + 2 from rfl, d4y]
  rfl
theorem c4A  : Pu Tryd.prog (xV (Instr.build 209 #[])) (.agg #[(Value.int .i64 0), (Value.int .i64 0)]) := Pu.ok fun w => by kernel_rfl
theorem D3 (a0 : Int) (a1 : Int) : Pu Tryd.prog (xV (Instr.build 213 #[(0, (Value.int .i64 a0)), (1, (Value.int .i64 a1))])) (.agg #[(Value.int .i64 a0), (Value.int .i64 a1)]) := Pu.ok fun w => by kernel_rfl
theorem d4z (d : Nat) (a0 b0 : Int) (a1 b1 : Int) (w : World) : (Op.equalIn (d + 2) 213 (.agg #[(Value.int .i64 a0), (Value.int .i64 a1)]) (.agg #[(Value.int .i64 b0), (Value.int .i64 b1)])).run Tryd.prog w = .ok (decide (a0 = b0 ∧ a1 = b1)) w := by
  have u3 := Tryd.underlying3
  have i3 := Tryd.isAgg3
  have s3 := Tryd.sizeOf3
  have hS : Tryd.prog.underlying 213 = some (.struct (Tryd.prog.fieldsOf 213)) := by kernel_rfl
  rw [run_equalIn_agg w (d + 1) 213 _ _ hS (by kernel_rfl)]
  simp only [Program.fieldsOf, Tryd.underlying213]
  go_simp
  try simp only [b5v]
  by_cases h0 : a0 = b0
  · by_cases h1 : a1 = b1
    · simp [h0, h1]
    · simp [h0, h1]
  · simp [h0]
theorem M7 (x y : Operand) (a0 b0 : Int) (a1 b1 : Int) : Pu Tryd.prog (xBin .eql 213 x y (.agg #[(Value.int .i64 a0), (Value.int .i64 a1)]) (.agg #[(Value.int .i64 b0), (Value.int .i64 b1)])) (.bool (decide (a0 = b0 ∧ a1 = b1))) := by
  refine Pu.ok (s := do eqGuard .eql 213 x y (.agg #[(Value.int .i64 a0), (Value.int .i64 a1)]) (.agg #[(Value.int .i64 b0), (Value.int .i64 b1)]); binOp .eql 213 (.agg #[(Value.int .i64 a0), (Value.int .i64 a1)]) (.agg #[(Value.int .i64 b0), (Value.int .i64 b1)])) fun w => ?_
  rw [Sem.run_bind, run_eqGuard_agg w _ _ _ _ _ _ (by kernel_rfl), Result.andThen_ok, run_eql_struct, show (10000 : Nat) = 9998 + 2 from rfl, d4z]
  rfl
theorem b1I  : Pu Tryd.prog (xV (Instr.build 213 #[])) (.agg #[(Value.int .i64 0), (Value.int .i64 0)]) := Pu.ok fun w => by kernel_rfl
theorem d0B (a0a : Option Addr) (a0n a0c : Nat) (a1a : Option Addr) (a1n a1c : Nat) (a2a : Option Addr) (a2n a2c : Nat) (a3a : Option Addr) (a3n a3c : Nat) (w : World) : (Instr.buildSlice 172 4 #[(0, (Value.slice a0a a0n a0c)), (1, (Value.slice a1a a1n a1c)), (2, (Value.slice a2a a2n a2c)), (3, (Value.slice a3a a3n a3c))]).run Tryd.prog w = .ok (.slice (some ⟨w.heap.size, 0, none⟩) 4 4) (w.alloc (.cells [(Value.slice a0a a0n a0c), (Value.slice a1a a1n a1c), (Value.slice a2a a2n a2c), (Value.slice a3a a3n a3c)].toArray 97)) := by kernel_rfl
abbrev b6 (x : f6) : List Value := [(Value.slice x.o7.a x.o7.n x.o7.c), (Value.slice x.K5.a x.K5.n x.K5.c)]
abbrev a4l (x : f4) : List Value := [(Value.int .i64 x.fnodes), (Value.int .i64 x.fdepth), (Value.int .i64 x.fe), (Value.bool x.fform), (Value.bool x.fnamed), (Value.slice x.fnames.a x.fnames.n x.fnames.c)]
abbrev d5 (x : b4) : List Value := [(Value.int .i64 x.fn), (Value.int .i64 x.fdepth), (Value.int .i64 x.fbad)]
end Go.Proofs.YthldnpmfelniiaaDoor
