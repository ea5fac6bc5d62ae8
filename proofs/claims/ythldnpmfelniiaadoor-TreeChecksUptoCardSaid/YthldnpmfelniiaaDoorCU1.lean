/- Single operations at this program's types, and its structures; printed by lift.py. -/
import Derived.Test.YthldnpmfelniiaaDoorProg
import Derived.Test.YthldnpmfelniiaaDoorCS4
import Derived.KernelRfl
import Derived.Laws.StructEq
import Derived.Laws.Tables
import Derived.Laws.Cover2
namespace Go.Proofs.YthldnpmfelniiaaDoor
open Go.RowKit
set_option maxRecDepth 100000
set_option maxHeartbeats 2000000
structure g5 where
  D8 : Sl
  P1 : Sl
structure h9 where
  b9 : Int
  I3 : Int
  g7 : ByteArray
  t1 : Sl
structure k4 where
  b9 : Int
  fOp : Int
  f9 : Sl
  o5 : Sl
structure B8 where
  g7 : ByteArray
  M3 : Int
structure c5 where
  g7 : ByteArray
  f8d : Bool
structure E0 where
  m0 : h9
structure g6 where
  fnodes : Int
  fdepth : Int
  fe : Int
  fform : Bool
  fnamed : Bool
  fnames : Sl
structure b8 where
  fn : Int
  fdepth : Int
  fbad : Int
structure b6 where
  fok : Bool
  fnames : Bool
structure M4 where
  k5 : k4
structure i4 where
  b9 : Int
  g7 : ByteArray
  f9 : Sl
  k3 : Sl
  u0 : Sl
  s7 : Sl
structure g5u where
  f0 : Int
  f1 : Int
  f2 : Int
  f3 : Int
structure Q7 where
  P2 : B8
structure M5 where
  d8 : i4
structure G8 where
  fexprs : Int
  fparts : Int
structure w9 where
  fexprs : Int
  fconds : Int
inductive c8 where
  | nil
  | C2 (x : E0)
  | K6 (x : M4)
  | J9 (x : Q7)
  | F8 (x : M5)
def y7 : c8 → Value
  | .nil => .nilIface
  | .C2 x => .iface 96 (.agg #[(Value.int .i64 x.m0.b9), (Value.int .i64 x.m0.I3), (Value.string x.m0.g7), (Value.slice x.m0.t1.a x.m0.t1.n x.m0.t1.c)])
  | .K6 x => .iface 106 (.agg #[(Value.int .i64 x.k5.b9), (Value.int .i64 x.k5.fOp), (Value.slice x.k5.f9.a x.k5.f9.n x.k5.f9.c), (Value.slice x.k5.o5.a x.k5.o5.n x.k5.o5.c)])
  | .J9 x => .iface 175 (.agg #[(Value.string x.P2.g7), (Value.int .i64 x.P2.M3)])
  | .F8 x => .iface 177 (.agg #[(Value.int .i64 x.d8.b9), (Value.string x.d8.g7), (Value.slice x.d8.f9.a x.d8.f9.n x.d8.f9.c), (Value.slice x.d8.k3.a x.d8.k3.n x.d8.k3.c), (Value.slice x.d8.u0.a x.d8.u0.n x.d8.u0.c), (Value.slice x.d8.s7.a x.d8.s7.n x.d8.s7.c)])
theorem c2H (x : c8) : [y7 x].all (·.oneCell') = true := by cases x <;> rfl
def c8.q6 : c8 → E0
  | .C2 x => x
  | _ => (E0.mk (h9.mk 0 0 ⟨#[]⟩ (Sl.mk none 0 0)))
def c8.a8K : c8 → Bool
  | .C2 _ => true
  | _ => false
def c8.Y5 : c8 → Q7
  | .J9 x => x
  | _ => (Q7.mk (B8.mk ⟨#[]⟩ 0))
def c8.a8L : c8 → Bool
  | .J9 _ => true
  | _ => false
def c8.h7 : c8 → M5
  | .F8 x => x
  | _ => (M5.mk (i4.mk 0 ⟨#[]⟩ (Sl.mk none 0 0) (Sl.mk none 0 0) (Sl.mk none 0 0) (Sl.mk none 0 0)))
def c8.a8M : c8 → Bool
  | .F8 _ => true
  | _ => false
theorem a7p (a : Option Addr) (n c : Nat) : Pu Tryd.prog (xBuiltin .len #[47] 3 [false] [.slice a n c]) (.int .i64 (n : Int)) := a1e Tryd.underlying47 a n c
theorem L0 {g o : Nat} : Pu Tryd.prog (xV (Instr.fieldAt 25 (.pointer (some ⟨g, o, none⟩)) 0)) (.pointer (some ⟨g, o + 0, none⟩)) := Pu.ok fun w => by kernel_rfl
theorem a5K (a : Option Addr) (n c : Nat) : Pu Tryd.prog (xBuiltin .len #[22] 3 [false] [.slice a n c]) (.int .i64 (n : Int)) := a1e Tryd.underlying22 a n c
theorem a3u {a : Option Addr} {g o : Nat} (ha : a = some ⟨g, o, none⟩) (len cap : Nat) (k : IntKind) (i : Int) (h0 : 0 ≤ i) (h1 : i < len) : Pu Tryd.prog (xV (Instr.indexAt 22 (.slice a len cap) (.int k i))) (.pointer (some ⟨g, o + i.toNat * 2, none⟩)) := a3Z Tryd.underlying22 Tryd.sizeOf67 ha len cap k i h0 h1
theorem b3S {g o : Nat} : Pu Tryd.prog (xV (Instr.fieldAt 67 (.pointer (some ⟨g, o, none⟩)) 0)) (.pointer (some ⟨g, o + 0, none⟩)) := Pu.ok fun w => by kernel_rfl
theorem a8N (s : ByteArray) : Pu Tryd.prog (xBuiltin .len #[9] 3 [false] [.string s]) (.int .i64 (s.size : Int)) := c8F _ _ s Tryd.underlying9
theorem d2I (a : Option Addr) (n c : Nat) : Pu Tryd.prog (xBuiltin .len #[68] 3 [false] [.slice a n c]) (.int .i64 (n : Int)) := a1e Tryd.underlying68 a n c
theorem d4J {a : Option Addr} {g o : Nat} (ha : a = some ⟨g, o, none⟩) (len cap : Nat) (k : IntKind) (i : Int) (h0 : 0 ≤ i) (h1 : i < len) : Pu Tryd.prog (xV (Instr.indexAt 68 (.slice a len cap) (.int k i))) (.pointer (some ⟨g, o + i.toNat * 2, none⟩)) := a3Z Tryd.underlying68 Tryd.sizeOf71 ha len cap k i h0 h1
theorem c8M {g o : Nat} : Pu Tryd.prog (xV (Instr.fieldAt 71 (.pointer (some ⟨g, o, none⟩)) 0)) (.pointer (some ⟨g, o + 0, none⟩)) := Pu.ok fun w => by kernel_rfl
theorem a0s {g o : Nat} : Pu Tryd.prog (xV (Instr.fieldAt 25 (.pointer (some ⟨g, o, none⟩)) 1)) (.pointer (some ⟨g, o + 1, none⟩)) := Pu.ok fun w => by kernel_rfl
abbrev p7 (x : B8) : List Value := [(Value.string x.g7), (Value.int .i64 x.M3)]
theorem c2I (x : B8) : (p7 x).length = 2 := rfl
theorem c2J (x : B8) : (p7 x).all (·.oneCell') = true := rfl
theorem d9x (a2B : ByteArray) (a2C : Int) (w : World) : (Instr.buildSlice 22 1 #[(0, (Value.agg #[(Value.string a2B), (Value.int .i64 a2C)]))]).run Tryd.prog w = .ok (.slice (some ⟨w.heap.size, 0, none⟩) 1 1) (w.alloc (.cells [(Value.string a2B), (Value.int .i64 a2C)].toArray 67)) := by kernel_rfl
theorem K2 (a : Option Addr) (n c : Nat) : Pu Tryd.prog (xBuiltin .len #[23] 3 [false] [.slice a n c]) (.int .i64 (n : Int)) := a1e Tryd.underlying23 a n c
theorem c2K (a0a : Option Addr) (a0n a0c : Nat) (a1a : Option Addr) (a1n a1c : Nat) : Pu Tryd.prog (xV (Instr.build 25 #[(0, (Value.slice a0a a0n a0c)), (1, (Value.slice a1a a1n a1c))])) (.agg #[(Value.slice a0a a0n a0c), (Value.slice a1a a1n a1c)]) := Pu.ok fun w => by kernel_rfl
theorem a9M (a0 : Int) (a1 : Int) : Pu Tryd.prog (xV (Instr.build 30 #[(1, (Value.int .i64 a1)), (0, (Value.int .i64 a0))])) (.agg #[(Value.int .i64 a0), (Value.int .i64 a1), (Value.string ⟨#[]⟩), (Value.slice none 0 0)]) := Pu.ok fun w => by kernel_rfl
theorem e3u (d : Nat) (a0 b0 : ByteArray) (a1 b1 : Int) (w : World) : (Op.equalIn (d + 2) 67 (.agg #[(Value.string a0), (Value.int .i64 a1)]) (.agg #[(Value.string b0), (Value.int .i64 b1)])).run Tryd.prog w = .ok (decide (a0 = b0 ∧ a1 = b1)) w := by
  have u9 := Tryd.underlying9
  have i9 := Tryd.isAgg9
  have s9 := Tryd.sizeOf9
  have u3 := Tryd.underlying3
  have i3 := Tryd.isAgg3
  have s3 := Tryd.sizeOf3
  have hS : Tryd.prog.underlying 67 = some (.struct (Tryd.prog.fieldsOf 67)) := by kernel_rfl
  rw [run_equalIn_agg w (d + 1) 67 _ _ hS (by kernel_rfl)]
  simp only [Program.fieldsOf, Tryd.underlying67]
  go_simp
  try simp only [b8e]
  by_cases h0 : a0 = b0
  · by_cases h1 : a1 = b1
    · simp [h0, h1]
    · simp [h0, h1]
  · simp [h0]
theorem d4K (x y : Operand) (a0 b0 : ByteArray) (a1 b1 : Int) : Pu Tryd.prog (xBin .neq 67 x y (.agg #[(Value.string a0), (Value.int .i64 a1)]) (.agg #[(Value.string b0), (Value.int .i64 b1)])) (.bool (!decide (a0 = b0 ∧ a1 = b1))) := by
  refine Pu.ok (s := do eqGuard .neq 67 x y (.agg #[(Value.string a0), (Value.int .i64 a1)]) (.agg #[(Value.string b0), (Value.int .i64 b1)]); binOp .neq 67 (.agg #[(Value.string a0), (Value.int .i64 a1)]) (.agg #[(Value.string b0), (Value.int .i64 b1)])) fun w => ?_
  rw [Sem.run_bind, run_eqGuard_agg w _ _ _ _ _ _ (by kernel_rfl), Result.andThen_ok, run_neq_struct, show (10000 : Nat) = 9998 + 2 from rfl, e3u]
  rfl
theorem b7V (a2B : Int) (a2C : Int) (b5L : ByteArray) (a0_3a : Option Addr) (a0_3n a0_3c : Nat) : Pu Tryd.prog (xV (Instr.build 96 #[(0, (Value.agg #[(Value.int .i64 a2B), (Value.int .i64 a2C), (Value.string b5L), (Value.slice a0_3a a0_3n a0_3c)]))])) (.agg #[(Value.int .i64 a2B), (Value.int .i64 a2C), (Value.string b5L), (Value.slice a0_3a a0_3n a0_3c)]) := Pu.ok fun w => by kernel_rfl
theorem a9N (x : E0) : Pu Tryd.prog (xV (Instr.makeInterface 96 (.agg #[(Value.int .i64 x.m0.b9), (Value.int .i64 x.m0.I3), (Value.string x.m0.g7), (Value.slice x.m0.t1.a x.m0.t1.n x.m0.t1.c)]))) (y7 (c8.C2 x)) := Pu.ok fun w => rfl
abbrev o8 (x : c8) : List Value := [(y7 x)]
theorem L6 (x : c8) : (o8 x).length = 1 := rfl
theorem P5 (x : c8) : (o8 x).all (·.oneCell') = true := c2H x
theorem b3l (a0 : c8) (w : World) : (Instr.buildSlice 97 1 #[(0, (y7 a0))]).run Tryd.prog w = .ok (.slice (some ⟨w.heap.size, 0, none⟩) 1 1) (w.alloc (.cells [(y7 a0)].toArray 141)) := by cases a0 <;> kernel_rfl
theorem a0t {g o : Nat} : Pu Tryd.prog (xV (Instr.fieldAt 92 (.pointer (some ⟨g, o, none⟩)) 2)) (.pointer (some ⟨g, o + 2, none⟩)) := Pu.ok fun w => by kernel_rfl
theorem d2J  : Pu Tryd.prog (xV (Instr.build 99 #[])) (.agg #[(Value.int .i64 0), (Value.int .i64 0), (Value.int .i64 0)]) := Pu.ok fun w => by kernel_rfl
theorem u5 {g o : Nat} : Pu Tryd.prog (xV (Instr.fieldAt 99 (.pointer (some ⟨g, o, none⟩)) 2)) (.pointer (some ⟨g, o + 2, none⟩)) := Pu.ok fun w => by kernel_rfl
theorem b0d {g o : Nat} : Pu Tryd.prog (xV (Instr.fieldAt 99 (.pointer (some ⟨g, o, none⟩)) 0)) (.pointer (some ⟨g, o + 0, none⟩)) := Pu.ok fun w => by kernel_rfl
theorem b3T {g o : Nat} : Pu Tryd.prog (xV (Instr.fieldAt 99 (.pointer (some ⟨g, o, none⟩)) 1)) (.pointer (some ⟨g, o + 1, none⟩)) := Pu.ok fun w => by kernel_rfl
theorem M6 {g o : Nat} : Pu Tryd.prog (xV (Instr.fieldAt 30 (.pointer (some ⟨g, o, none⟩)) 3)) (.pointer (some ⟨g, o + 3, none⟩)) := Pu.ok fun w => by kernel_rfl
theorem F5 (a : Option Addr) (n c : Nat) : Pu Tryd.prog (xBuiltin .len #[28] 3 [false] [.slice a n c]) (.int .i64 (n : Int)) := a1e Tryd.underlying28 a n c
theorem a2O {a : Option Addr} {g o : Nat} (ha : a = some ⟨g, o, none⟩) (len cap : Nat) (k : IntKind) (i : Int) (h0 : 0 ≤ i) (h1 : i < len) : Pu Tryd.prog (xV (Instr.indexAt 28 (.slice a len cap) (.int k i))) (.pointer (some ⟨g, o + i.toNat * 4, none⟩)) := a3Z Tryd.underlying28 Tryd.sizeOf30 ha len cap k i h0 h1
theorem c0X (a0 : Bool) (a1 : Bool) : Pu Tryd.prog (xV (Instr.build 102 #[(0, (Value.bool a0)), (1, (Value.bool a1))])) (.agg #[(Value.bool a0), (Value.bool a1)]) := Pu.ok fun w => by kernel_rfl
theorem G1 {g o : Nat} : Pu Tryd.prog (xV (Instr.fieldAt 30 (.pointer (some ⟨g, o, none⟩)) 0)) (.pointer (some ⟨g, o + 0, none⟩)) := Pu.ok fun w => by kernel_rfl
theorem Y6 {g o : Nat} : Pu Tryd.prog (xV (Instr.fieldAt 30 (.pointer (some ⟨g, o, none⟩)) 2)) (.pointer (some ⟨g, o + 2, none⟩)) := Pu.ok fun w => by kernel_rfl
theorem p8 {g o : Nat} : Pu Tryd.prog (xV (Instr.fieldAt 102 (.pointer (some ⟨g, o, none⟩)) 0)) (.pointer (some ⟨g, o + 0, none⟩)) := Pu.ok fun w => by kernel_rfl
theorem b2O {g o : Nat} : Pu Tryd.prog (xV (Instr.fieldAt 102 (.pointer (some ⟨g, o, none⟩)) 1)) (.pointer (some ⟨g, o + 1, none⟩)) := Pu.ok fun w => by kernel_rfl
theorem M7 {g o : Nat} : Pu Tryd.prog (xV (Instr.fieldAt 30 (.pointer (some ⟨g, o, none⟩)) 1)) (.pointer (some ⟨g, o + 1, none⟩)) := Pu.ok fun w => by kernel_rfl
theorem c3x (a2B : Int) (a2C : Int) (a0_2a : Option Addr) (a0_2n a0_2c : Nat) (a0_3a : Option Addr) (a0_3n a0_3c : Nat) : Pu Tryd.prog (xV (Instr.build 106 #[(0, (Value.agg #[(Value.int .i64 a2B), (Value.int .i64 a2C), (Value.slice a0_2a a0_2n a0_2c), (Value.slice a0_3a a0_3n a0_3c)]))])) (.agg #[(Value.int .i64 a2B), (Value.int .i64 a2C), (Value.slice a0_2a a0_2n a0_2c), (Value.slice a0_3a a0_3n a0_3c)]) := Pu.ok fun w => by kernel_rfl
theorem c0Y (x : M4) : Pu Tryd.prog (xV (Instr.makeInterface 106 (.agg #[(Value.int .i64 x.k5.b9), (Value.int .i64 x.k5.fOp), (Value.slice x.k5.f9.a x.k5.f9.n x.k5.f9.c), (Value.slice x.k5.o5.a x.k5.o5.n x.k5.o5.c)]))) (y7 (c8.K6 x)) := Pu.ok fun w => rfl
theorem M8 {g o : Nat} : Pu Tryd.prog (xV (Instr.fieldAt 33 (.pointer (some ⟨g, o, none⟩)) 2)) (.pointer (some ⟨g, o + 2, none⟩)) := Pu.ok fun w => by kernel_rfl
theorem M9 {g o : Nat} : Pu Tryd.prog (xV (Instr.fieldAt 33 (.pointer (some ⟨g, o, none⟩)) 3)) (.pointer (some ⟨g, o + 3, none⟩)) := Pu.ok fun w => by kernel_rfl
theorem O9 (a : Option Addr) (n c : Nat) : Pu Tryd.prog (xBuiltin .len #[31] 3 [false] [.slice a n c]) (.int .i64 (n : Int)) := a1e Tryd.underlying31 a n c
theorem a4X {a : Option Addr} {g o : Nat} (ha : a = some ⟨g, o, none⟩) (len cap : Nat) (k : IntKind) (i : Int) (h0 : 0 ≤ i) (h1 : i < len) : Pu Tryd.prog (xV (Instr.indexAt 31 (.slice a len cap) (.int k i))) (.pointer (some ⟨g, o + i.toNat * 4, none⟩)) := a3Z Tryd.underlying31 Tryd.sizeOf33 ha len cap k i h0 h1
theorem a6a {g o : Nat} : Pu Tryd.prog (xV (Instr.fieldAt 33 (.pointer (some ⟨g, o, none⟩)) 0)) (.pointer (some ⟨g, o + 0, none⟩)) := Pu.ok fun w => by kernel_rfl
theorem P3 {g o : Nat} : Pu Tryd.prog (xV (Instr.fieldAt 33 (.pointer (some ⟨g, o, none⟩)) 1)) (.pointer (some ⟨g, o + 1, none⟩)) := Pu.ok fun w => by kernel_rfl
theorem c7x (a0 : ByteArray) : Pu Tryd.prog (xV (Instr.build 67 #[(0, (Value.string a0))])) (.agg #[(Value.string a0), (Value.int .i64 0)]) := Pu.ok fun w => by kernel_rfl
theorem a2l {g o : Nat} : Pu Tryd.prog (xV (Instr.fieldAt 67 (.pointer (some ⟨g, o, none⟩)) 1)) (.pointer (some ⟨g, o + 1, none⟩)) := Pu.ok fun w => by kernel_rfl
theorem a4q {a : Option Addr} {g o : Nat} (ha : a = some ⟨g, o, none⟩) (len cap : Nat) (k : IntKind) (i : Int) (h0 : 0 ≤ i) (h1 : i < len) : Pu Tryd.prog (xV (Instr.indexAt 23 (.slice a len cap) (.int k i))) (.pointer (some ⟨g, o + i.toNat * 6, none⟩)) := a3Z Tryd.underlying23 Tryd.sizeOf88 ha len cap k i h0 h1
theorem y9 {g o : Nat} : Pu Tryd.prog (xV (Instr.fieldAt 88 (.pointer (some ⟨g, o, none⟩)) 0)) (.pointer (some ⟨g, o + 0, none⟩)) := Pu.ok fun w => by kernel_rfl
theorem a0u {g o : Nat} : Pu Tryd.prog (xV (Instr.fieldAt 88 (.pointer (some ⟨g, o, none⟩)) 1)) (.pointer (some ⟨g, o + 1, none⟩)) := Pu.ok fun w => by kernel_rfl
theorem N0 {g o : Nat} : Pu Tryd.prog (xV (Instr.fieldAt 88 (.pointer (some ⟨g, o, none⟩)) 2)) (.pointer (some ⟨g, o + 2, none⟩)) := Pu.ok fun w => by kernel_rfl
theorem N1 {g o : Nat} : Pu Tryd.prog (xV (Instr.fieldAt 88 (.pointer (some ⟨g, o, none⟩)) 3)) (.pointer (some ⟨g, o + 3, none⟩)) := Pu.ok fun w => by kernel_rfl
theorem P4 {g o : Nat} : Pu Tryd.prog (xV (Instr.fieldAt 88 (.pointer (some ⟨g, o, none⟩)) 4)) (.pointer (some ⟨g, o + 4, none⟩)) := Pu.ok fun w => by kernel_rfl
theorem K5 {g o : Nat} : Pu Tryd.prog (xV (Instr.fieldAt 88 (.pointer (some ⟨g, o, none⟩)) 5)) (.pointer (some ⟨g, o + 5, none⟩)) := Pu.ok fun w => by kernel_rfl
theorem b3U {g o : Nat} : Pu Tryd.prog (xV (Instr.fieldAt 92 (.pointer (some ⟨g, o, none⟩)) 1)) (.pointer (some ⟨g, o + 1, none⟩)) := Pu.ok fun w => by kernel_rfl
theorem b0e {g o : Nat} : Pu Tryd.prog (xV (Instr.fieldAt 92 (.pointer (some ⟨g, o, none⟩)) 0)) (.pointer (some ⟨g, o + 0, none⟩)) := Pu.ok fun w => by kernel_rfl
theorem b0f {g o : Nat} : Pu Tryd.prog (xV (Instr.fieldAt 92 (.pointer (some ⟨g, o, none⟩)) 5)) (.pointer (some ⟨g, o + 5, none⟩)) := Pu.ok fun w => by kernel_rfl
theorem b3V {a : Option Addr} {g o : Nat} (ha : a = some ⟨g, o, none⟩) (len cap : Nat) (k : IntKind) (i : Int) (h0 : 0 ≤ i) (h1 : i < len) : Pu Tryd.prog (xV (Instr.indexAt 47 (.slice a len cap) (.int k i))) (.pointer (some ⟨g, o + i.toNat * 1, none⟩)) := a3Z Tryd.underlying47 Tryd.sizeOf9 ha len cap k i h0 h1
abbrev s8 (x : ByteArray) : List Value := [(Value.string x)]
theorem a9p (x : ByteArray) : (s8 x).length = 1 := rfl
theorem a9q (x : ByteArray) : (s8 x).all (·.oneCell') = true := rfl
abbrev i8 (x : c5) : List Value := [(Value.string x.g7), (Value.bool x.f8d)]
theorem a5w (x : c5) : (i8 x).length = 2 := rfl
theorem a5x (x : c5) : (i8 x).all (·.oneCell') = true := rfl
theorem c7O (a0 : ByteArray) (w : World) : (Instr.buildSlice 47 1 #[(0, (Value.string a0))]).run Tryd.prog w = .ok (.slice (some ⟨w.heap.size, 0, none⟩) 1 1) (w.alloc (.cells [(Value.string a0)].toArray 9)) := by kernel_rfl
theorem f8e : Tryd.prog.info? 9 = some ((Tryd.prog.info? 9).getD default) := by kernel_rfl
theorem d2K {E : Pan} {w0 w : World} {ps : Nat → Prop} {H0 H : Hp} {Fs : List Frag} {K : Value → World → Prop} {s : Sl} {xs : List ByteArray} {F : Frag} {t2 : Sl} {ys : List ByteArray} {ks : List Bool} {ty : TypeId} (I : Inv w0 ps H0 H (F :: Fs) w) (hr : RowL 9 1 s8 s xs F) (hs : SrcO w s8 t2 ys) (hb : (xs.length + ys.length) * 17 ≤ 140737488355328) (h : ∀ (s' : Sl) (F' : Frag) (w' : World), RowL 9 1 s8 s' (xs ++ ys) F' → Inv w0 ps H0 H (F' :: Fs) w' → (∀ k, k < w.heap.size → (∀ p ∈ F, p.1 ≠ k) → w'.heap[k]? = w.heap[k]?) → K (.slice s'.a s'.n s'.c) w') : opK Tryd.prog E (xBuiltin .append #[47, 47] ty ks [.slice s.a s.n s.c, .slice t2.a t2.n t2.c]) w K :=
  c8J (bytes := 16) Tryd.underlying47 f8e (z := (Value.string ⟨#[]⟩)) (by kernel_rfl) (by kernel_rfl) (by kernel_rfl) (by kernel_rfl) I hr hs hb h
theorem c2L (a0 : Int) (a2 : ByteArray) : Pu Tryd.prog (xV (Instr.build 30 #[(0, (Value.int .i64 a0)), (2, (Value.string a2))])) (.agg #[(Value.int .i64 a0), (Value.int .i64 0), (Value.string a2), (Value.slice none 0 0)]) := Pu.ok fun w => by kernel_rfl
theorem c2M (a0 : Int) (a1 : Int) : Pu Tryd.prog (xV (Instr.build 30 #[(0, (Value.int .i64 a0)), (1, (Value.int .i64 a1))])) (.agg #[(Value.int .i64 a0), (Value.int .i64 a1), (Value.string ⟨#[]⟩), (Value.slice none 0 0)]) := Pu.ok fun w => by kernel_rfl
abbrev f4 (x : h9) : List Value := [(Value.int .i64 x.b9), (Value.int .i64 x.I3), (Value.string x.g7), (Value.slice x.t1.a x.t1.n x.t1.c)]
theorem b5u (x : h9) : (f4 x).length = 4 := rfl
theorem b5v (x : h9) : (f4 x).all (·.oneCell') = true := rfl
theorem d9y (a2B : Int) (a2C : Int) (b5L : ByteArray) (a0_3a : Option Addr) (a0_3n a0_3c : Nat) (e3v : Int) (e3w : Int) (e3x : ByteArray) (a1_3a : Option Addr) (a1_3n a1_3c : Nat) (w : World) : (Instr.buildSlice 28 2 #[(0, (Value.agg #[(Value.int .i64 a2B), (Value.int .i64 a2C), (Value.string b5L), (Value.slice a0_3a a0_3n a0_3c)])), (1, (Value.agg #[(Value.int .i64 e3v), (Value.int .i64 e3w), (Value.string e3x), (Value.slice a1_3a a1_3n a1_3c)]))]).run Tryd.prog w = .ok (.slice (some ⟨w.heap.size, 0, none⟩) 2 2) (w.alloc (.cells [(Value.int .i64 a2B), (Value.int .i64 a2C), (Value.string b5L), (Value.slice a0_3a a0_3n a0_3c), (Value.int .i64 e3v), (Value.int .i64 e3w), (Value.string e3x), (Value.slice a1_3a a1_3n a1_3c)].toArray 30)) := by kernel_rfl
theorem c2N (a0 : Int) (a3a : Option Addr) (a3n a3c : Nat) : Pu Tryd.prog (xV (Instr.build 30 #[(0, (Value.int .i64 a0)), (3, (Value.slice a3a a3n a3c))])) (.agg #[(Value.int .i64 a0), (Value.int .i64 0), (Value.string ⟨#[]⟩), (Value.slice a3a a3n a3c)]) := Pu.ok fun w => by kernel_rfl
theorem d9z (a2B : Int) (a2C : Int) (b5L : ByteArray) (a0_3a : Option Addr) (a0_3n a0_3c : Nat) (w : World) : (Instr.buildSlice 28 1 #[(0, (Value.agg #[(Value.int .i64 a2B), (Value.int .i64 a2C), (Value.string b5L), (Value.slice a0_3a a0_3n a0_3c)]))]).run Tryd.prog w = .ok (.slice (some ⟨w.heap.size, 0, none⟩) 1 1) (w.alloc (.cells [(Value.int .i64 a2B), (Value.int .i64 a2C), (Value.string b5L), (Value.slice a0_3a a0_3n a0_3c)].toArray 30)) := by kernel_rfl
theorem b9t (a0 : Int) (a1 : ByteArray) (a2a : Option Addr) (a2n a2c : Nat) : Pu Tryd.prog (xV (Instr.build 88 #[(0, (Value.int .i64 a0)), (1, (Value.string a1)), (2, (Value.slice a2a a2n a2c))])) (.agg #[(Value.int .i64 a0), (Value.string a1), (Value.slice a2a a2n a2c), (Value.slice none 0 0), (Value.slice none 0 0), (Value.slice none 0 0)]) := Pu.ok fun w => by kernel_rfl
abbrev d5 (x : i4) : List Value := [(Value.int .i64 x.b9), (Value.string x.g7), (Value.slice x.f9.a x.f9.n x.f9.c), (Value.slice x.k3.a x.k3.n x.k3.c), (Value.slice x.u0.a x.u0.n x.u0.c), (Value.slice x.s7.a x.s7.n x.s7.c)]
theorem c2O (x : i4) : (d5 x).length = 6 := rfl
theorem c2P (x : i4) : (d5 x).all (·.oneCell') = true := rfl
theorem d9A (a2B : Int) (a2C : ByteArray) (a0_2a : Option Addr) (a0_2n a0_2c : Nat) (a0_3a : Option Addr) (a0_3n a0_3c : Nat) (a0_4a : Option Addr) (a0_4n a0_4c : Nat) (a0_5a : Option Addr) (a0_5n a0_5c : Nat) (w : World) : (Instr.buildSlice 23 1 #[(0, (Value.agg #[(Value.int .i64 a2B), (Value.string a2C), (Value.slice a0_2a a0_2n a0_2c), (Value.slice a0_3a a0_3n a0_3c), (Value.slice a0_4a a0_4n a0_4c), (Value.slice a0_5a a0_5n a0_5c)]))]).run Tryd.prog w = .ok (.slice (some ⟨w.heap.size, 0, none⟩) 1 1) (w.alloc (.cells [(Value.int .i64 a2B), (Value.string a2C), (Value.slice a0_2a a0_2n a0_2c), (Value.slice a0_3a a0_3n a0_3c), (Value.slice a0_4a a0_4n a0_4c), (Value.slice a0_5a a0_5n a0_5c)].toArray 88)) := by kernel_rfl
theorem d2L  : Pu Tryd.prog (xV (Instr.build 92 #[])) (.agg #[(Value.int .i64 0), (Value.int .i64 0), (Value.int .i64 0), (Value.bool false), (Value.bool false), (Value.slice none 0 0)]) := Pu.ok fun w => by kernel_rfl
theorem b2A (a : Option Addr) (n c : Nat) : Pu Tryd.prog (xBuiltin .len #[97] 3 [false] [.slice a n c]) (.int .i64 (n : Int)) := a1e Tryd.underlying97 a n c
theorem d4L {a : Option Addr} {g o : Nat} (ha : a = some ⟨g, o, none⟩) (len cap : Nat) (k : IntKind) (i : Int) (h0 : 0 ≤ i) (h1 : i < len) : Pu Tryd.prog (xV (Instr.indexAt 97 (.slice a len cap) (.int k i))) (.pointer (some ⟨g, o + i.toNat * 1, none⟩)) := a3Z Tryd.underlying97 Tryd.sizeOf141 ha len cap k i h0 h1
theorem b3W {g o : Nat} : Pu Tryd.prog (xV (Instr.fieldAt 92 (.pointer (some ⟨g, o, none⟩)) 3)) (.pointer (some ⟨g, o + 3, none⟩)) := Pu.ok fun w => by kernel_rfl
theorem b3X {g o : Nat} : Pu Tryd.prog (xV (Instr.fieldAt 92 (.pointer (some ⟨g, o, none⟩)) 4)) (.pointer (some ⟨g, o + 4, none⟩)) := Pu.ok fun w => by kernel_rfl
theorem c3y (a0a : Option Addr) (a0n a0c : Nat) (a1a : Option Addr) (a1n a1c : Nat) (w : World) : (Instr.buildSlice 172 2 #[(0, (Value.slice a0a a0n a0c)), (1, (Value.slice a1a a1n a1c))]).run Tryd.prog w = .ok (.slice (some ⟨w.heap.size, 0, none⟩) 2 2) (w.alloc (.cells [(Value.slice a0a a0n a0c), (Value.slice a1a a1n a1c)].toArray 97)) := by kernel_rfl
theorem a6b (s : ByteArray) (k : IntKind) (i : Int) (h0 : 0 ≤ i) (h1 : i < s.size) : Pu Tryd.prog (xV (Instr.index 9 (.string s) (.int k i))) (.int .u8 ((s.get! i.toNat).toNat : Int)) := c3s _ s k i Tryd.underlying9 h0 h1
theorem b5w (a0 : ByteArray) (a1 : Bool) : Pu Tryd.prog (xV (Instr.build 71 #[(0, (Value.string a0)), (1, (Value.bool a1))])) (.agg #[(Value.string a0), (Value.bool a1)]) := Pu.ok fun w => by kernel_rfl
theorem c7P (a2B : ByteArray) (a2C : Bool) (w : World) : (Instr.buildSlice 68 1 #[(0, (Value.agg #[(Value.string a2B), (Value.bool a2C)]))]).run Tryd.prog w = .ok (.slice (some ⟨w.heap.size, 0, none⟩) 1 1) (w.alloc (.cells [(Value.string a2B), (Value.bool a2C)].toArray 71)) := by kernel_rfl
theorem e3y : Tryd.prog.info? 71 = some ((Tryd.prog.info? 71).getD default) := by kernel_rfl
theorem d2M {E : Pan} {w0 w : World} {ps : Nat → Prop} {H0 H : Hp} {Fs : List Frag} {K : Value → World → Prop} {s : Sl} {xs : List c5} {F : Frag} {t2 : Sl} {ys : List c5} {ks : List Bool} {ty : TypeId} (I : Inv w0 ps H0 H (F :: Fs) w) (hr : RowL 71 2 i8 s xs F) (hs : SrcO w i8 t2 ys) (hb : (xs.length + ys.length) * 25 ≤ 140737488355328) (h : ∀ (s' : Sl) (F' : Frag) (w' : World), RowL 71 2 i8 s' (xs ++ ys) F' → Inv w0 ps H0 H (F' :: Fs) w' → (∀ k, k < w.heap.size → (∀ p ∈ F, p.1 ≠ k) → w'.heap[k]? = w.heap[k]?) → K (.slice s'.a s'.n s'.c) w') : opK Tryd.prog E (xBuiltin .append #[68, 68] ty ks [.slice s.a s.n s.c, .slice t2.a t2.n t2.c]) w K :=
  c8J (bytes := 24) Tryd.underlying68 e3y (z := (Value.agg #[(Value.string ⟨#[]⟩), (Value.bool false)])) (by kernel_rfl) (by kernel_rfl) (by kernel_rfl) (by kernel_rfl) I hr hs hb h
abbrev f7 (x : k4) : List Value := [(Value.int .i64 x.b9), (Value.int .i64 x.fOp), (Value.slice x.f9.a x.f9.n x.f9.c), (Value.slice x.o5.a x.o5.n x.o5.c)]
theorem b9u (a : Option Addr) (n c : Nat) : Pu Tryd.prog (xBuiltin .len #[172] 3 [false] [.slice a n c]) (.int .i64 (n : Int)) := a1e Tryd.underlying172 a n c
theorem c2t {a : Option Addr} {g o : Nat} (ha : a = some ⟨g, o, none⟩) (len cap : Nat) (k : IntKind) (i : Int) (h0 : 0 ≤ i) (h1 : i < len) : Pu Tryd.prog (xV (Instr.indexAt 172 (.slice a len cap) (.int k i))) (.pointer (some ⟨g, o + i.toNat * 1, none⟩)) := a3Z Tryd.underlying172 Tryd.sizeOf97 ha len cap k i h0 h1
theorem d2N (s : ByteArray) : Pu Tryd.prog (xV (Instr.makeInterface 9 (.string s))) (.iface 9 (.string s)) := Pu.ok fun w => by kernel_rfl
theorem c7Q : Tryd.prog.info? 141 = some ((Tryd.prog.info? 141).getD default) := by kernel_rfl
theorem b5M {E : Pan} {w0 w : World} {ps : Nat → Prop} {H0 H : Hp} {Fs : List Frag} {K : Value → World → Prop} {s : Sl} {xs : List c8} {F : Frag} {t2 : Sl} {ys : List c8} {ks : List Bool} {ty : TypeId} (I : Inv w0 ps H0 H (F :: Fs) w) (hr : RowL 141 1 o8 s xs F) (hs : SrcO w o8 t2 ys) (hb : (xs.length + ys.length) * 17 ≤ 140737488355328) (h : ∀ (s' : Sl) (F' : Frag) (w' : World), RowL 141 1 o8 s' (xs ++ ys) F' → Inv w0 ps H0 H (F' :: Fs) w' → (∀ k, k < w.heap.size → (∀ p ∈ F, p.1 ≠ k) → w'.heap[k]? = w.heap[k]?) → K (.slice s'.a s'.n s'.c) w') : opK Tryd.prog E (xBuiltin .append #[97, 97] ty ks [.slice s.a s.n s.c, .slice t2.a t2.n t2.c]) w K :=
  c8J (bytes := 16) Tryd.underlying97 c7Q (z := Value.nilIface) (by kernel_rfl) (by kernel_rfl) (by kernel_rfl) (by kernel_rfl) I hr hs hb h
theorem c3z (a2B : ByteArray) (a2C : Int) : Pu Tryd.prog (xV (Instr.build 175 #[(0, (Value.agg #[(Value.string a2B), (Value.int .i64 a2C)]))])) (.agg #[(Value.string a2B), (Value.int .i64 a2C)]) := Pu.ok fun w => by kernel_rfl
theorem c0Z (x : Q7) : Pu Tryd.prog (xV (Instr.makeInterface 175 (.agg #[(Value.string x.P2.g7), (Value.int .i64 x.P2.M3)]))) (y7 (c8.J9 x)) := Pu.ok fun w => rfl
theorem c3A (a2B : Int) (a2C : ByteArray) (a0_2a : Option Addr) (a0_2n a0_2c : Nat) (a0_3a : Option Addr) (a0_3n a0_3c : Nat) (a0_4a : Option Addr) (a0_4n a0_4c : Nat) (a0_5a : Option Addr) (a0_5n a0_5c : Nat) : Pu Tryd.prog (xV (Instr.build 177 #[(0, (Value.agg #[(Value.int .i64 a2B), (Value.string a2C), (Value.slice a0_2a a0_2n a0_2c), (Value.slice a0_3a a0_3n a0_3c), (Value.slice a0_4a a0_4n a0_4c), (Value.slice a0_5a a0_5n a0_5c)]))])) (.agg #[(Value.int .i64 a2B), (Value.string a2C), (Value.slice a0_2a a0_2n a0_2c), (Value.slice a0_3a a0_3n a0_3c), (Value.slice a0_4a a0_4n a0_4c), (Value.slice a0_5a a0_5n a0_5c)]) := Pu.ok fun w => by kernel_rfl
theorem c1a (x : M5) : Pu Tryd.prog (xV (Instr.makeInterface 177 (.agg #[(Value.int .i64 x.d8.b9), (Value.string x.d8.g7), (Value.slice x.d8.f9.a x.d8.f9.n x.d8.f9.c), (Value.slice x.d8.k3.a x.d8.k3.n x.d8.k3.c), (Value.slice x.d8.u0.a x.d8.u0.n x.d8.u0.c), (Value.slice x.d8.s7.a x.d8.s7.n x.d8.s7.c)]))) (y7 (c8.F8 x)) := Pu.ok fun w => rfl
theorem c2Q (x : c8) : Pu Tryd.prog (xV (Instr.typeAssert (y7 x) 141 175 true)) (.tuple #[(Value.agg #[(Value.string ((((x.Y5)).P2).g7)), (Value.int .i64 ((((x.Y5)).P2).M3))]), .bool (x.a8L)]) := by
  cases x <;> exact Pu.ok fun w => by kernel_rfl
theorem a6x {g o : Nat} : Pu Tryd.prog (xV (Instr.fieldAt 175 (.pointer (some ⟨g, o, none⟩)) 0)) (.pointer (some ⟨g, o + 0, none⟩)) := Pu.ok fun w => by kernel_rfl
theorem c2R (x : c8) : Pu Tryd.prog (xV (Instr.typeAssert (y7 x) 141 177 true)) (.tuple #[(Value.agg #[(Value.int .i64 ((((x.h7)).d8).b9)), (Value.string ((((x.h7)).d8).g7)), (Value.slice ((((x.h7)).d8).f9).a ((((x.h7)).d8).f9).n ((((x.h7)).d8).f9).c), (Value.slice ((((x.h7)).d8).k3).a ((((x.h7)).d8).k3).n ((((x.h7)).d8).k3).c), (Value.slice ((((x.h7)).d8).u0).a ((((x.h7)).d8).u0).n ((((x.h7)).d8).u0).c), (Value.slice ((((x.h7)).d8).s7).a ((((x.h7)).d8).s7).n ((((x.h7)).d8).s7).c)]), .bool (x.a8M)]) := by
  cases x <;> exact Pu.ok fun w => by kernel_rfl
theorem F9 {g o : Nat} : Pu Tryd.prog (xV (Instr.fieldAt 177 (.pointer (some ⟨g, o, none⟩)) 0)) (.pointer (some ⟨g, o + 0, none⟩)) := Pu.ok fun w => by kernel_rfl
theorem c3B (x : c8) : Pu Tryd.prog (xV (Instr.typeAssert (y7 x) 141 96 true)) (.tuple #[(Value.agg #[(Value.int .i64 ((((x.q6)).m0).b9)), (Value.int .i64 ((((x.q6)).m0).I3)), (Value.string ((((x.q6)).m0).g7)), (Value.slice ((((x.q6)).m0).t1).a ((((x.q6)).m0).t1).n ((((x.q6)).m0).t1).c)]), .bool (x.a8K)]) := by
  cases x <;> exact Pu.ok fun w => by kernel_rfl
theorem N2 {g o : Nat} : Pu Tryd.prog (xV (Instr.fieldAt 96 (.pointer (some ⟨g, o, none⟩)) 0)) (.pointer (some ⟨g, o + 0, none⟩)) := Pu.ok fun w => by kernel_rfl
theorem b5N (k : IntKind) (n : Int) : Pu Tryd.prog (xV (convert 5 3 (.int k n))) (.int .i64 (IntKind.wrap .i64 n)) := Pu.ok fun w => run_convert_int (P := Tryd.prog) (w := w) 5 3 k n (by rw [Tryd.underlying5]; rfl) Tryd.underlying3
theorem a0m {g o : Nat} : Pu Tryd.prog (xV (Instr.fieldAt 106 (.pointer (some ⟨g, o, none⟩)) 0)) (.pointer (some ⟨g, o + 0, none⟩)) := Pu.ok fun w => by kernel_rfl
theorem a3s (a0 : Int) (a1 : Int) : Pu Tryd.prog (xV (Instr.build 209 #[(0, (Value.int .i64 a0)), (1, (Value.int .i64 a1))])) (.agg #[(Value.int .i64 a0), (Value.int .i64 a1)]) := Pu.ok fun w => by kernel_rfl
theorem d9B (d : Nat) (a0 b0 : Int) (a1 b1 : Int) (w : World) : (Op.equalIn (d + 2) 209 (.agg #[(Value.int .i64 a0), (Value.int .i64 a1)]) (.agg #[(Value.int .i64 b0), (Value.int .i64 b1)])).run Tryd.prog w = .ok (decide (a0 = b0 ∧ a1 = b1)) w := by
  have u3 := Tryd.underlying3
  have i3 := Tryd.isAgg3
  have s3 := Tryd.sizeOf3
  have hS : Tryd.prog.underlying 209 = some (.struct (Tryd.prog.fieldsOf 209)) := by kernel_rfl
  rw [run_equalIn_agg w (d + 1) 209 _ _ hS (by kernel_rfl)]
  simp only [Program.fieldsOf, Tryd.underlying209]
  go_simp
  try simp only [b8e]
  by_cases h0 : a0 = b0
  · by_cases h1 : a1 = b1
    · simp [h0, h1]
    · simp [h0, h1]
  · simp [h0]
theorem a7q (x y : Operand) (a0 b0 : Int) (a1 b1 : Int) : Pu Tryd.prog (xBin .eql 209 x y (.agg #[(Value.int .i64 a0), (Value.int .i64 a1)]) (.agg #[(Value.int .i64 b0), (Value.int .i64 b1)])) (.bool (decide (a0 = b0 ∧ a1 = b1))) := by
  refine Pu.ok (s := do eqGuard .eql 209 x y (.agg #[(Value.int .i64 a0), (Value.int .i64 a1)]) (.agg #[(Value.int .i64 b0), (Value.int .i64 b1)]); binOp .eql 209 (.agg #[(Value.int .i64 a0), (Value.int .i64 a1)]) (.agg #[(Value.int .i64 b0), (Value.int .i64 b1)])) fun w => ?_
  rw [Sem.run_bind, run_eqGuard_agg w _ _ _ _ _ _ (by kernel_rfl), Result.andThen_ok, run_eql_struct, show (10000 : Nat) = 9998 + 2 from rfl, d9B]
  rfl
theorem c8N  : Pu Tryd.prog (xV (Instr.build 209 #[])) (.agg #[(Value.int .i64 0), (Value.int .i64 0)]) := Pu.ok fun w => by kernel_rfl
theorem E9 (a0 : Int) (a1 : Int) : Pu Tryd.prog (xV (Instr.build 213 #[(0, (Value.int .i64 a0)), (1, (Value.int .i64 a1))])) (.agg #[(Value.int .i64 a0), (Value.int .i64 a1)]) := Pu.ok fun w => by kernel_rfl
theorem d9C (d : Nat) (a0 b0 : Int) (a1 b1 : Int) (w : World) : (Op.equalIn (d + 2) 213 (.agg #[(Value.int .i64 a0), (Value.int .i64 a1)]) (.agg #[(Value.int .i64 b0), (Value.int .i64 b1)])).run Tryd.prog w = .ok (decide (a0 = b0 ∧ a1 = b1)) w := by
  have u3 := Tryd.underlying3
  have i3 := Tryd.isAgg3
  have s3 := Tryd.sizeOf3
  have hS : Tryd.prog.underlying 213 = some (.struct (Tryd.prog.fieldsOf 213)) := by kernel_rfl
  rw [run_equalIn_agg w (d + 1) 213 _ _ hS (by kernel_rfl)]
  simp only [Program.fieldsOf, Tryd.underlying213]
  go_simp
  try simp only [b8e]
  by_cases h0 : a0 = b0
  · by_cases h1 : a1 = b1
    · simp [h0, h1]
    · simp [h0, h1]
  · simp [h0]
theorem P0 (x y : Operand) (a0 b0 : Int) (a1 b1 : Int) : Pu Tryd.prog (xBin .eql 213 x y (.agg #[(Value.int .i64 a0), (Value.int .i64 a1)]) (.agg #[(Value.int .i64 b0), (Value.int .i64 b1)])) (.bool (decide (a0 = b0 ∧ a1 = b1))) := by
  refine Pu.ok (s := do eqGuard .eql 213 x y (.agg #[(Value.int .i64 a0), (Value.int .i64 a1)]) (.agg #[(Value.int .i64 b0), (Value.int .i64 b1)]); binOp .eql 213 (.agg #[(Value.int .i64 a0), (Value.int .i64 a1)]) (.agg #[(Value.int .i64 b0), (Value.int .i64 b1)])) fun w => ?_
  rw [Sem.run_bind, run_eqGuard_agg w _ _ _ _ _ _ (by kernel_rfl), Result.andThen_ok, run_eql_struct, show (10000 : Nat) = 9998 + 2 from rfl, d9C]
  rfl
theorem b3Y  : Pu Tryd.prog (xV (Instr.build 213 #[])) (.agg #[(Value.int .i64 0), (Value.int .i64 0)]) := Pu.ok fun w => by kernel_rfl
theorem d4M (a0a : Option Addr) (a0n a0c : Nat) (a1a : Option Addr) (a1n a1c : Nat) (a2a : Option Addr) (a2n a2c : Nat) (a3a : Option Addr) (a3n a3c : Nat) (w : World) : (Instr.buildSlice 172 4 #[(0, (Value.slice a0a a0n a0c)), (1, (Value.slice a1a a1n a1c)), (2, (Value.slice a2a a2n a2c)), (3, (Value.slice a3a a3n a3c))]).run Tryd.prog w = .ok (.slice (some ⟨w.heap.size, 0, none⟩) 4 4) (w.alloc (.cells [(Value.slice a0a a0n a0c), (Value.slice a1a a1n a1c), (Value.slice a2a a2n a2c), (Value.slice a3a a3n a3c)].toArray 97)) := by kernel_rfl
abbrev d7 (x : g5) : List Value := [(Value.slice x.D8.a x.D8.n x.D8.c), (Value.slice x.P1.a x.P1.n x.P1.c)]
abbrev a6c (x : g6) : List Value := [(Value.int .i64 x.fnodes), (Value.int .i64 x.fdepth), (Value.int .i64 x.fe), (Value.bool x.fform), (Value.bool x.fnamed), (Value.slice x.fnames.a x.fnames.n x.fnames.c)]
abbrev f5 (x : b8) : List Value := [(Value.int .i64 x.fn), (Value.int .i64 x.fdepth), (Value.int .i64 x.fbad)]
abbrev g1 (x : b6) : List Value := [(Value.bool x.fok), (Value.bool x.fnames)]
end Go.Proofs.YthldnpmfelniiaaDoor
