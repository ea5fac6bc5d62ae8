/- Single operations at this program's types, and its structures; printed by lift.py. -/
import Derived.Test.YtaokfhdinhimfaaDoorProg
import Derived.KernelRfl
import Derived.Laws.StructEq
import Derived.Laws.Cover2
import Derived.Test.YtaokfhdinhimfaaDooryTS5
namespace Go.Proofs.YtaokfhdinhimfaaDoor
open Go.RowKit
set_option maxRecDepth 100000
set_option maxHeartbeats 2000000
structure d8 where
  d5 : Int
  v8 : Int
  f0 : ByteArray
  u5 : Sl
structure i8 where
  f0 : ByteArray
  X5 : Int
structure l9 where
  d5 : Int
  f0 : ByteArray
  g5 : Sl
  o3 : Sl
  E2 : Sl
  E3 : Sl
structure o8 where
  a3M : Sl
  a3l : Sl
structure D3 where
  u6 : Sl
  C5 : Int
  z8 : Sl
  y1 : Int
  B5 : Int
  Z8 : Sl
structure j7 where
  E7 : Int
  v8 : Int
structure c8 where
  P7 : Int
  fTo : Int
  d5 : Int
  a1D : Int
  Y2 : Int
  fOp : Int
  fA : j7
  fB : j7
structure d2 where
  fc : D3
  fvars : (Option Nat)
  farrays : (Option Nat)
structure m2 where
  d5 : Int
  fOp : Int
  g5 : Sl
  o7 : Sl
structure b7m where
  fdst : Bool
  farr : Bool
  fop : Bool
  fa : Bool
  fb : Bool
structure f4 where
  fl : Sl
structure d4 where
  fname : ByteArray
  fas : Int
structure f8 where
  fnodes : Int
  fdepth : Int
  fe : Int
  fform : Bool
  fnamed : Bool
  fnames : Sl
structure J9 where
  M0 : i8
structure E4 where
  d6 : l9
structure B2 where
  j9 : d8
structure E5 where
  j6 : m2
structure m7 where
  fexprs : Int
  fconds : Int
structure i5 where
  fexprs : Int
  fparts : Int
abbrev i6 (x : d2) (s0 : Sl) : List Value := [(vs x.fc.u6), (vi x.fc.C5), (vs x.fc.z8), (vi x.fc.y1), (vi x.fc.B5), (vs s0), (Value.map x.fvars), (Value.map x.farrays)]
abbrev c6 (x : d2) : d2 := d2.mk (D3.mk x.fc.u6 x.fc.C5 x.fc.z8 x.fc.y1 x.fc.B5 (Sl.mk none 0 0)) x.fvars x.farrays
abbrev O5 (x : f8) (s0 : Sl) : List Value := [(vi x.fnodes), (vi x.fdepth), (vi x.fe), (Value.bool x.fform), (Value.bool x.fnamed), (vs s0)]
abbrev N1 (x : f8) : f8 := f8.mk x.fnodes x.fdepth x.fe x.fform x.fnamed (Sl.mk none 0 0)
inductive c7 where
  | nil
  | A6 (x : J9)
  | v7 (x : E4)
  | u7 (x : B2)
  | B3 (x : E5)
def u9 : c7 → Value
  | .nil => .nilIface
  | .A6 x => .iface 138 (.agg #[(Value.string x.M0.f0), (Value.int .i64 x.M0.X5)])
  | .v7 x => .iface 140 (.agg #[(Value.int .i64 x.d6.d5), (Value.string x.d6.f0), (Value.slice x.d6.g5.a x.d6.g5.n x.d6.g5.c), (Value.slice x.d6.o3.a x.d6.o3.n x.d6.o3.c), (Value.slice x.d6.E2.a x.d6.E2.n x.d6.E2.c), (Value.slice x.d6.E3.a x.d6.E3.n x.d6.E3.c)])
  | .u7 x => .iface 146 (.agg #[(Value.int .i64 x.j9.d5), (Value.int .i64 x.j9.v8), (Value.string x.j9.f0), (Value.slice x.j9.u5.a x.j9.u5.n x.j9.u5.c)])
  | .B3 x => .iface 181 (.agg #[(Value.int .i64 x.j6.d5), (Value.int .i64 x.j6.fOp), (Value.slice x.j6.g5.a x.j6.g5.n x.j6.g5.c), (Value.slice x.j6.o7.a x.j6.o7.n x.j6.o7.c)])
theorem a8A (x : c7) : [u9 x].all (·.oneCell') = true := by cases x <;> rfl
def c7.U6 : c7 → J9
  | .A6 x => x
  | _ => (J9.mk (i8.mk ⟨#[]⟩ 0))
def c7.a0W : c7 → Bool
  | .A6 _ => true
  | _ => false
def c7.m0 : c7 → E4
  | .v7 x => x
  | _ => (E4.mk (l9.mk 0 ⟨#[]⟩ (Sl.mk none 0 0) (Sl.mk none 0 0) (Sl.mk none 0 0) (Sl.mk none 0 0)))
def c7.a0X : c7 → Bool
  | .v7 _ => true
  | _ => false
def c7.v1 : c7 → B2
  | .u7 x => x
  | _ => (B2.mk (d8.mk 0 0 ⟨#[]⟩ (Sl.mk none 0 0)))
def c7.a0Y : c7 → Bool
  | .u7 _ => true
  | _ => false
theorem a8B (a0 : Int) (a2 : ByteArray) : Pu Tryd.prog (xV (Instr.build 25 #[(0, (Value.int .i64 a0)), (2, (Value.string a2))])) (.agg #[(Value.int .i64 a0), (Value.int .i64 0), (Value.string a2), (Value.slice none 0 0)]) := Pu.ok fun w => by kernel_rfl
abbrev d9 (x : d8) : List Value := [(Value.int .i64 x.d5), (Value.int .i64 x.v8), (Value.string x.f0), (Value.slice x.u5.a x.u5.n x.u5.c)]
theorem a2W (x : d8) : (d9 x).length = 4 := rfl
theorem a2X (x : d8) : (d9 x).all (·.oneCell') = true := rfl
theorem b4B (N2 : Int) (N3 : Int) (a3N : ByteArray) (a0_3a : Option Addr) (a0_3n a0_3c : Nat) (b5r : Int) (b5s : Int) (b5t : ByteArray) (a1_3a : Option Addr) (a1_3n a1_3c : Nat) (w : World) : (Instr.buildSlice 23 2 #[(0, (Value.agg #[(Value.int .i64 N2), (Value.int .i64 N3), (Value.string a3N), (Value.slice a0_3a a0_3n a0_3c)])), (1, (Value.agg #[(Value.int .i64 b5r), (Value.int .i64 b5s), (Value.string b5t), (Value.slice a1_3a a1_3n a1_3c)]))]).run Tryd.prog w = .ok (.slice (some ⟨w.heap.size, 0, none⟩) 2 2) (w.alloc (.cells [(Value.int .i64 N2), (Value.int .i64 N3), (Value.string a3N), (Value.slice a0_3a a0_3n a0_3c), (Value.int .i64 b5r), (Value.int .i64 b5s), (Value.string b5t), (Value.slice a1_3a a1_3n a1_3c)].toArray 25)) := by kernel_rfl
theorem a8C (a0 : Int) (a3a : Option Addr) (a3n a3c : Nat) : Pu Tryd.prog (xV (Instr.build 25 #[(0, (Value.int .i64 a0)), (3, (Value.slice a3a a3n a3c))])) (.agg #[(Value.int .i64 a0), (Value.int .i64 0), (Value.string ⟨#[]⟩), (Value.slice a3a a3n a3c)]) := Pu.ok fun w => by kernel_rfl
theorem b0r (a0 : ByteArray) : Pu Tryd.prog (xV (Instr.build 35 #[(0, (Value.string a0))])) (.agg #[(Value.string a0), (Value.int .i64 0)]) := Pu.ok fun w => by kernel_rfl
abbrev f7 (x : i8) : List Value := [(Value.string x.f0), (Value.int .i64 x.X5)]
theorem a1C (x : i8) : (f7 x).length = 2 := rfl
theorem a2Y (x : i8) : (f7 x).all (·.oneCell') = true := rfl
theorem b4C (N2 : ByteArray) (N3 : Int) (w : World) : (Instr.buildSlice 27 1 #[(0, (Value.agg #[(Value.string N2), (Value.int .i64 N3)]))]).run Tryd.prog w = .ok (.slice (some ⟨w.heap.size, 0, none⟩) 1 1) (w.alloc (.cells [(Value.string N2), (Value.int .i64 N3)].toArray 35)) := by kernel_rfl
theorem b4D (N2 : Int) (N3 : Int) (a3N : ByteArray) (a0_3a : Option Addr) (a0_3n a0_3c : Nat) (w : World) : (Instr.buildSlice 23 1 #[(0, (Value.agg #[(Value.int .i64 N2), (Value.int .i64 N3), (Value.string a3N), (Value.slice a0_3a a0_3n a0_3c)]))]).run Tryd.prog w = .ok (.slice (some ⟨w.heap.size, 0, none⟩) 1 1) (w.alloc (.cells [(Value.int .i64 N2), (Value.int .i64 N3), (Value.string a3N), (Value.slice a0_3a a0_3n a0_3c)].toArray 25)) := by kernel_rfl
theorem a7p (a0 : Int) (a1 : ByteArray) (a2a : Option Addr) (a2n a2c : Nat) : Pu Tryd.prog (xV (Instr.build 39 #[(0, (Value.int .i64 a0)), (1, (Value.string a1)), (2, (Value.slice a2a a2n a2c))])) (.agg #[(Value.int .i64 a0), (Value.string a1), (Value.slice a2a a2n a2c), (Value.slice none 0 0), (Value.slice none 0 0), (Value.slice none 0 0)]) := Pu.ok fun w => by kernel_rfl
abbrev l0 (x : l9) : List Value := [(Value.int .i64 x.d5), (Value.string x.f0), (Value.slice x.g5.a x.g5.n x.g5.c), (Value.slice x.o3.a x.o3.n x.o3.c), (Value.slice x.E2.a x.E2.n x.E2.c), (Value.slice x.E3.a x.E3.n x.E3.c)]
theorem a5J (x : l9) : (l0 x).length = 6 := rfl
theorem a5K (x : l9) : (l0 x).all (·.oneCell') = true := rfl
theorem b0H (N2 : Int) (N3 : ByteArray) (a0_2a : Option Addr) (a0_2n a0_2c : Nat) (a0_3a : Option Addr) (a0_3n a0_3c : Nat) (a0_4a : Option Addr) (a0_4n a0_4c : Nat) (a0_5a : Option Addr) (a0_5n a0_5c : Nat) (w : World) : (Instr.buildSlice 37 1 #[(0, (Value.agg #[(Value.int .i64 N2), (Value.string N3), (Value.slice a0_2a a0_2n a0_2c), (Value.slice a0_3a a0_3n a0_3c), (Value.slice a0_4a a0_4n a0_4c), (Value.slice a0_5a a0_5n a0_5c)]))]).run Tryd.prog w = .ok (.slice (some ⟨w.heap.size, 0, none⟩) 1 1) (w.alloc (.cells [(Value.int .i64 N2), (Value.string N3), (Value.slice a0_2a a0_2n a0_2c), (Value.slice a0_3a a0_3n a0_3c), (Value.slice a0_4a a0_4n a0_4c), (Value.slice a0_5a a0_5n a0_5c)].toArray 39)) := by kernel_rfl
theorem a8D (a0a : Option Addr) (a0n a0c : Nat) (a1a : Option Addr) (a1n a1c : Nat) : Pu Tryd.prog (xV (Instr.build 41 #[(0, (Value.slice a0a a0n a0c)), (1, (Value.slice a1a a1n a1c))])) (.agg #[(Value.slice a0a a0n a0c), (Value.slice a1a a1n a1c)]) := Pu.ok fun w => by kernel_rfl
theorem a1S {g o : Nat} : Pu Tryd.prog (xV (Instr.fieldAt 30 (.pointer (some ⟨g, o, none⟩)) 1)) (.pointer (some ⟨g, o + 1, none⟩)) := Pu.ok fun w => by kernel_rfl
theorem a0Z {g o : Nat} : Pu Tryd.prog (xV (Instr.fieldAt 30 (.pointer (some ⟨g, o, none⟩)) 5)) (.pointer (some ⟨g, o + 5, none⟩)) := Pu.ok fun w => by kernel_rfl
theorem a8n (a : Option Addr) (n c : Nat) : Pu Tryd.prog (xBuiltin .len #[28] 3 [false] [.slice a n c]) (.int .i64 (n : Int)) := M8 Tryd.underlying28 a n c
theorem a1b {g o : Nat} : Pu Tryd.prog (xV (Instr.fieldAt 30 (.pointer (some ⟨g, o, none⟩)) 3)) (.pointer (some ⟨g, o + 3, none⟩)) := Pu.ok fun w => by kernel_rfl
theorem b3d {a : Option Addr} {g o : Nat} (ha : a = some ⟨g, o, none⟩) (len cap : Nat) (k : IntKind) (i : Int) (h0 : 0 ≤ i) (h1 : i < len) : Pu Tryd.prog (xV (Instr.indexAt 28 (.slice a len cap) (.int k i))) (.pointer (some ⟨g, o + i.toNat * 10, none⟩)) := P6 Tryd.underlying28 Tryd.sizeOf46 ha len cap k i h0 h1
theorem a3m {g o : Nat} : Pu Tryd.prog (xV (Instr.fieldAt 41 (.pointer (some ⟨g, o, none⟩)) 1)) (.pointer (some ⟨g, o + 1, none⟩)) := Pu.ok fun w => by kernel_rfl
theorem b0s (a0 : Int) : Pu Tryd.prog (xV (Instr.build 39 #[(0, (Value.int .i64 a0))])) (.agg #[(Value.int .i64 a0), (Value.string ⟨#[]⟩), (Value.slice none 0 0), (Value.slice none 0 0), (Value.slice none 0 0), (Value.slice none 0 0)]) := Pu.ok fun w => by kernel_rfl
theorem a3o {g o : Nat} : Pu Tryd.prog (xV (Instr.fieldAt 30 (.pointer (some ⟨g, o, none⟩)) 4)) (.pointer (some ⟨g, o + 4, none⟩)) := Pu.ok fun w => by kernel_rfl
theorem a9b {a : Option Addr} {g o : Nat} (ha : a = some ⟨g, o, none⟩) (len cap : Nat) (k : IntKind) (i : Int) (h0 : 0 ≤ i) (h1 : i < len) : Pu Tryd.prog (xV (Instr.indexAt 49 (.slice a len cap) (.int k i))) (.pointer (some ⟨g, o + i.toNat * 1, none⟩)) := P6 Tryd.underlying49 Tryd.sizeOf3 ha len cap k i h0 h1
theorem a5a {g o : Nat} : Pu Tryd.prog (xV (Instr.fieldAt 46 (.pointer (some ⟨g, o, none⟩)) 0)) (.pointer (some ⟨g, o + 0, none⟩)) := Pu.ok fun w => by kernel_rfl
theorem b0Y {g o : Nat} : Pu Tryd.prog (xV (Instr.fieldAt 46 (.pointer (some ⟨g, o, none⟩)) 1)) (.pointer (some ⟨g, o + 1, none⟩)) := Pu.ok fun w => by kernel_rfl
theorem b0t (a1a : Option Addr) (a1n a1c : Nat) : Pu Tryd.prog (xV (Instr.build 41 #[(1, (Value.slice a1a a1n a1c))])) (.agg #[(Value.slice none 0 0), (Value.slice a1a a1n a1c)]) := Pu.ok fun w => by kernel_rfl
theorem a1y (a0 : Int) : Pu Tryd.prog (xV (Instr.build 44 #[(0, (Value.int .i64 a0))])) (.agg #[(Value.int .i64 a0), (Value.int .i64 0)]) := Pu.ok fun w => by kernel_rfl
theorem a4H (a1 : Int) (a2 : Int) (a3 : Int) (a4 : Int) (a9c : Int) (a9d : Int) (a9e : Int) (a9f : Int) : Pu Tryd.prog (xV (Instr.build 46 #[(1, (Value.int .i64 a1)), (2, (Value.int .i64 a2)), (3, (Value.int .i64 a3)), (4, (Value.int .i64 a4)), (6, (Value.agg #[(Value.int .i64 a9c), (Value.int .i64 a9d)])), (7, (Value.agg #[(Value.int .i64 a9e), (Value.int .i64 a9f)]))])) (.agg #[(Value.int .i64 0), (Value.int .i64 a1), (Value.int .i64 a2), (Value.int .i64 a3), (Value.int .i64 a4), (Value.int .i64 0), (Value.int .i64 a9c), (Value.int .i64 a9d), (Value.int .i64 a9e), (Value.int .i64 a9f)]) := Pu.ok fun w => by kernel_rfl
theorem b1P (d : Nat) (a0 b0 : Int) (a1 b1 : Int) (w : World) : (Op.equalIn (d + 2) 44 (.agg #[(Value.int .i64 a0), (Value.int .i64 a1)]) (.agg #[(Value.int .i64 b0), (Value.int .i64 b1)])).run Tryd.prog w = .ok (decide (a0 = b0 ∧ a1 = b1)) w := by
  have u3 := Tryd.underlying3
  have i3 := Tryd.isAgg3
  have s3 := Tryd.sizeOf3
  have u2 := Tryd.underlying2
  have i2 := Tryd.isAgg2
  have s2 := Tryd.sizeOf2
  have hS : Tryd.prog.underlying 44 = some (.struct (Tryd.prog.fieldsOf 44)) := by kernel_rfl
  rw [run_equalIn_agg w (d + 1) 44 _ _ hS (by kernel_rfl)]
  simp only [Program.fieldsOf, Tryd.underlying44]
  go_simp
  try simp only [a4W]
  by_cases h0 : a0 = b0
  · by_cases h1 : a1 = b1
    · simp [h0, h1]
    · simp [h0, h1]
  · simp [h0]
theorem b5u (d : Nat) (a0 b0 : Int) (a1 b1 : Int) (a2 b2 : Int) (a3 b3 : Int) (a4 b4 : Int) (a5 b5 : Int) (a6 b6 : Int) (a7 b7 : Int) (a8 b8 : Int) (a9 b9 : Int) (w : World) : (Op.equalIn (d + 3) 46 (.agg #[(Value.int .i64 a0), (Value.int .i64 a1), (Value.int .i64 a2), (Value.int .i64 a3), (Value.int .i64 a4), (Value.int .i64 a5), (Value.int .i64 a6), (Value.int .i64 a7), (Value.int .i64 a8), (Value.int .i64 a9)]) (.agg #[(Value.int .i64 b0), (Value.int .i64 b1), (Value.int .i64 b2), (Value.int .i64 b3), (Value.int .i64 b4), (Value.int .i64 b5), (Value.int .i64 b6), (Value.int .i64 b7), (Value.int .i64 b8), (Value.int .i64 b9)])).run Tryd.prog w = .ok (decide (a0 = b0 ∧ a1 = b1 ∧ a2 = b2 ∧ a3 = b3 ∧ a4 = b4 ∧ a5 = b5 ∧ a6 = b6 ∧ a7 = b7 ∧ a8 = b8 ∧ a9 = b9)) w := by
  have u3 := Tryd.underlying3
  have i3 := Tryd.isAgg3
  have s3 := Tryd.sizeOf3
  have u2 := Tryd.underlying2
  have i2 := Tryd.isAgg2
  have s2 := Tryd.sizeOf2
  have e44 := b1P d
  have i44 := Tryd.isAgg44
  have s44 := Tryd.sizeOf44
  have e44 := b1P d
  have i44 := Tryd.isAgg44
  have s44 := Tryd.sizeOf44
  have hS : Tryd.prog.underlying 46 = some (.struct (Tryd.prog.fieldsOf 46)) := by kernel_rfl
  rw [run_equalIn_agg w (d + 2) 46 _ _ hS (by kernel_rfl)]
  simp only [Program.fieldsOf, Tryd.underlying46]
  go_simp
  try simp only [a4W]
  by_cases h0 : a0 = b0
  · by_cases h1 : a1 = b1
    · by_cases h2 : a2 = b2
      · by_cases h3 : a3 = b3
        · by_cases h4 : a4 = b4
          · by_cases h5 : a5 = b5
            · by_cases h6 : a6 = b6
              · by_cases h7 : a7 = b7
                · by_cases h8 : a8 = b8
                  · by_cases h9 : a9 = b9
                    · simp [h0, h1, h2, h3, h4, h5, h6, h7, h8, h9]
                    · simp [h0, h1, h2, h3, h4, h5, h6, h7, h8, h9]
                  · simp [h0, h1, h2, h3, h4, h5, h6, h7, h8]
                · simp [h0, h1, h2, h3, h4, h5, h6, h7]
              · simp [h0, h1, h2, h3, h4, h5, h6]
            · simp [h0, h1, h2, h3, h4, h5]
          · simp [h0, h1, h2, h3, h4]
        · simp [h0, h1, h2, h3]
      · simp [h0, h1, h2]
    · simp [h0, h1]
  · simp [h0]
theorem b3e (x y : Operand) (a0 b0 : Int) (a1 b1 : Int) (a2 b2 : Int) (a3 b3 : Int) (a4 b4 : Int) (a5 b5 : Int) (a6 b6 : Int) (a7 b7 : Int) (a8 b8 : Int) (a9 b9 : Int) : Pu Tryd.prog (xBin .eql 46 x y (.agg #[(Value.int .i64 a0), (Value.int .i64 a1), (Value.int .i64 a2), (Value.int .i64 a3), (Value.int .i64 a4), (Value.int .i64 a5), (Value.int .i64 a6), (Value.int .i64 a7), (Value.int .i64 a8), (Value.int .i64 a9)]) (.agg #[(Value.int .i64 b0), (Value.int .i64 b1), (Value.int .i64 b2), (Value.int .i64 b3), (Value.int .i64 b4), (Value.int .i64 b5), (Value.int .i64 b6), (Value.int .i64 b7), (Value.int .i64 b8), (Value.int .i64 b9)])) (.bool (decide (a0 = b0 ∧ a1 = b1 ∧ a2 = b2 ∧ a3 = b3 ∧ a4 = b4 ∧ a5 = b5 ∧ a6 = b6 ∧ a7 = b7 ∧ a8 = b8 ∧ a9 = b9))) := by
  refine Pu.ok (s := do eqGuard .eql 46 x y (.agg #[(Value.int .i64 a0), (Value.int .i64 a1), (Value.int .i64 a2), (Value.int .i64 a3), (Value.int .i64 a4), (Value.int .i64 a5), (Value.int .i64 a6), (Value.int .i64 a7), (Value.int .i64 a8), (Value.int .i64 a9)]) (.agg #[(Value.int .i64 b0), (Value.int .i64 b1), (Value.int .i64 b2), (Value.int .i64 b3), (Value.int .i64 b4), (Value.int .i64 b5), (Value.int .i64 b6), (Value.int .i64 b7), (Value.int .i64 b8), (Value.int .i64 b9)]); binOp .eql 46 (.agg #[(Value.int .i64 a0), (Value.int .i64 a1), (Value.int .i64 a2), (Value.int .i64 a3), (Value.int .i64 a4), (Value.int .i64 a5), (Value.int .i64 a6), (Value.int .i64 a7), (Value.int .i64 a8), (Value.int .i64 a9)]) (.agg #[(Value.int .i64 b0), (Value.int .i64 b1), (Value.int .i64 b2), (Value.int .i64 b3), (Value.int .i64 b4), (Value.int .i64 b5), (Value.int .i64 b6), (Value.int .i64 b7), (Value.int .i64 b8), (Value.int .i64 b9)])) fun w => ?_
  rw [Sem.run_bind, run_eqGuard_agg w _ _ _ _ _ _ (by kernel_rfl), Result.andThen_ok, run_eql_struct, show (10000 : Nat) = 9997 + 3 from rfl, b5u]
  rfl
theorem a5Y  : Pu Tryd.prog (xV (Instr.build 30 #[])) (.agg #[(Value.slice none 0 0), (Value.int .i64 0), (Value.slice none 0 0), (Value.int .i64 0), (Value.int .i64 0), (Value.slice none 0 0)]) := Pu.ok fun w => by kernel_rfl
theorem a7q (a0a : Option Addr) (a0n a0c : Nat) (a2a : Option Addr) (a2n a2c : Nat) (a3 : Int) : Pu Tryd.prog (xV (Instr.build 30 #[(0, (Value.slice a0a a0n a0c)), (2, (Value.slice a2a a2n a2c)), (3, (Value.int .i64 a3))])) (.agg #[(Value.slice a0a a0n a0c), (Value.int .i64 0), (Value.slice a2a a2n a2c), (Value.int .i64 a3), (Value.int .i64 0), (Value.slice none 0 0)]) := Pu.ok fun w => by kernel_rfl
theorem U4 (a : Option Addr) (n c : Nat) : Pu Tryd.prog (xBuiltin .len #[37] 3 [false] [.slice a n c]) (.int .i64 (n : Int)) := M8 Tryd.underlying37 a n c
theorem a6Y {a : Option Addr} {g o : Nat} (ha : a = some ⟨g, o, none⟩) (len cap : Nat) (k : IntKind) (i : Int) (h0 : 0 ≤ i) (h1 : i < len) : Pu Tryd.prog (xV (Instr.indexAt 37 (.slice a len cap) (.int k i))) (.pointer (some ⟨g, o + i.toNat * 6, none⟩)) := P6 Tryd.underlying37 Tryd.sizeOf39 ha len cap k i h0 h1
theorem a1T {g o : Nat} : Pu Tryd.prog (xV (Instr.fieldAt 39 (.pointer (some ⟨g, o, none⟩)) 0)) (.pointer (some ⟨g, o + 0, none⟩)) := Pu.ok fun w => by kernel_rfl
theorem a0f {g o : Nat} : Pu Tryd.prog (xV (Instr.fieldAt 39 (.pointer (some ⟨g, o, none⟩)) 4)) (.pointer (some ⟨g, o + 4, none⟩)) := Pu.ok fun w => by kernel_rfl
theorem a1d {g o : Nat} : Pu Tryd.prog (xV (Instr.fieldAt 39 (.pointer (some ⟨g, o, none⟩)) 5)) (.pointer (some ⟨g, o + 5, none⟩)) := Pu.ok fun w => by kernel_rfl
abbrev a1z (x : Int) : List Value := [(Value.int .i64 x)]
theorem a6Z (x : Int) : (a1z x).length = 1 := rfl
theorem a7a (x : Int) : (a1z x).all (·.oneCell') = true := rfl
theorem a7P (a0 : Int) (w : World) : (Instr.buildSlice 49 1 #[(0, (Value.int .i64 a0))]).run Tryd.prog w = .ok (.slice (some ⟨w.heap.size, 0, none⟩) 1 1) (w.alloc (.cells [(Value.int .i64 a0)].toArray 3)) := by kernel_rfl
theorem b7n : Tryd.prog.info? 3 = some ((Tryd.prog.info? 3).getD default) := by kernel_rfl
theorem b1Q {E : Pan} {w0 w : World} {ps : Nat → Prop} {H0 H : Hp} {Fs : List Frag} {K : Value → World → Prop} {s : Sl} {xs : List Int} {F : Frag} {t2 : Sl} {ys : List Int} {ks : List Bool} {ty : TypeId} (I : Inv w0 ps H0 H (F :: Fs) w) (hr : RowL 3 1 a1z s xs F) (hs : SrcO w a1z t2 ys) (hb : (xs.length + ys.length) * 9 ≤ 140737488355328) (h : ∀ (s' : Sl) (F' : Frag) (w' : World), RowL 3 1 a1z s' (xs ++ ys) F' → Inv w0 ps H0 H (F' :: Fs) w' → (∀ k, k < w.heap.size → (∀ p ∈ F, p.1 ≠ k) → w'.heap[k]? = w.heap[k]?) → K (.slice s'.a s'.n s'.c) w') : opK Tryd.prog E (xBuiltin .append #[49, 49] ty ks [.slice s.a s.n s.c, .slice t2.a t2.n t2.c]) w K :=
  a6p (bytes := 8) Tryd.underlying49 b7n (z := (Value.int .i64 0)) (by kernel_rfl) (by kernel_rfl) (by kernel_rfl) (by kernel_rfl) I hr hs hb h
theorem a4m (a : Option Addr) (n c : Nat) : Pu Tryd.prog (xBuiltin .len #[27] 3 [false] [.slice a n c]) (.int .i64 (n : Int)) := M8 Tryd.underlying27 a n c
theorem a1E {a : Option Addr} {g o : Nat} (ha : a = some ⟨g, o, none⟩) (len cap : Nat) (k : IntKind) (i : Int) (h0 : 0 ≤ i) (h1 : i < len) : Pu Tryd.prog (xV (Instr.indexAt 27 (.slice a len cap) (.int k i))) (.pointer (some ⟨g, o + i.toNat * 2, none⟩)) := P6 Tryd.underlying27 Tryd.sizeOf35 ha len cap k i h0 h1
theorem X6 {g o : Nat} : Pu Tryd.prog (xV (Instr.fieldAt 35 (.pointer (some ⟨g, o, none⟩)) 0)) (.pointer (some ⟨g, o + 0, none⟩)) := Pu.ok fun w => by kernel_rfl
abbrev r9 (x : ByteArray) : List Value := [(Value.string x)]
theorem a2D (x : ByteArray) : (r9 x).length = 1 := rfl
theorem a2E (x : ByteArray) : (r9 x).all (·.oneCell') = true := rfl
theorem b0I (a0 : ByteArray) (w : World) : (Instr.buildSlice 26 1 #[(0, (Value.string a0))]).run Tryd.prog w = .ok (.slice (some ⟨w.heap.size, 0, none⟩) 1 1) (w.alloc (.cells [(Value.string a0)].toArray 9)) := by kernel_rfl
theorem b7o : Tryd.prog.info? 9 = some ((Tryd.prog.info? 9).getD default) := by kernel_rfl
theorem b1R {E : Pan} {w0 w : World} {ps : Nat → Prop} {H0 H : Hp} {Fs : List Frag} {K : Value → World → Prop} {s : Sl} {xs : List ByteArray} {F : Frag} {t2 : Sl} {ys : List ByteArray} {ks : List Bool} {ty : TypeId} (I : Inv w0 ps H0 H (F :: Fs) w) (hr : RowL 9 1 r9 s xs F) (hs : SrcO w r9 t2 ys) (hb : (xs.length + ys.length) * 17 ≤ 140737488355328) (h : ∀ (s' : Sl) (F' : Frag) (w' : World), RowL 9 1 r9 s' (xs ++ ys) F' → Inv w0 ps H0 H (F' :: Fs) w' → (∀ k, k < w.heap.size → (∀ p ∈ F, p.1 ≠ k) → w'.heap[k]? = w.heap[k]?) → K (.slice s'.a s'.n s'.c) w') : opK Tryd.prog E (xBuiltin .append #[26, 26] ty ks [.slice s.a s.n s.c, .slice t2.a t2.n t2.c]) w K :=
  a6p (bytes := 16) Tryd.underlying26 b7o (z := (Value.string ⟨#[]⟩)) (by kernel_rfl) (by kernel_rfl) (by kernel_rfl) (by kernel_rfl) I hr hs hb h
abbrev g9 (x : c8) : List Value := [(Value.int .i64 x.P7), (Value.int .i64 x.fTo), (Value.int .i64 x.d5), (Value.int .i64 x.a1D), (Value.int .i64 x.Y2), (Value.int .i64 x.fOp), (Value.int .i64 x.fA.E7), (Value.int .i64 x.fA.v8), (Value.int .i64 x.fB.E7), (Value.int .i64 x.fB.v8)]
theorem a2Z (x : c8) : (g9 x).length = 10 := rfl
theorem a3b (x : c8) : (g9 x).all (·.oneCell') = true := rfl
theorem D2 {g o : Nat} : Pu Tryd.prog (xV (Instr.fieldAt 59 (.pointer (some ⟨g, o, none⟩)) 0)) (.pointer (some ⟨g, o + 0, none⟩)) := Pu.ok fun w => by kernel_rfl
theorem a5b {g o : Nat} : Pu Tryd.prog (xV (Instr.fieldAt 59 (.pointer (some ⟨g, o, none⟩)) 1)) (.pointer (some ⟨g, o + 6, none⟩)) := Pu.ok fun w => by kernel_rfl
theorem X7 {g o : Nat} : Pu Tryd.prog (xV (Instr.fieldAt 39 (.pointer (some ⟨g, o, none⟩)) 1)) (.pointer (some ⟨g, o + 1, none⟩)) := Pu.ok fun w => by kernel_rfl
theorem a1U {g o : Nat} : Pu Tryd.prog (xV (Instr.fieldAt 39 (.pointer (some ⟨g, o, none⟩)) 2)) (.pointer (some ⟨g, o + 2, none⟩)) := Pu.ok fun w => by kernel_rfl
theorem Y3 {a : Option Addr} {g o : Nat} (ha : a = some ⟨g, o, none⟩) (len cap : Nat) (k : IntKind) (i : Int) (h0 : 0 ≤ i) (h1 : i < len) : Pu Tryd.prog (xV (Instr.indexAt 23 (.slice a len cap) (.int k i))) (.pointer (some ⟨g, o + i.toNat * 4, none⟩)) := P6 Tryd.underlying23 Tryd.sizeOf25 ha len cap k i h0 h1
theorem N4 {g o : Nat} : Pu Tryd.prog (xV (Instr.fieldAt 25 (.pointer (some ⟨g, o, none⟩)) 0)) (.pointer (some ⟨g, o + 0, none⟩)) := Pu.ok fun w => by kernel_rfl
theorem a3p {g o : Nat} : Pu Tryd.prog (xV (Instr.fieldAt 25 (.pointer (some ⟨g, o, none⟩)) 1)) (.pointer (some ⟨g, o + 1, none⟩)) := Pu.ok fun w => by kernel_rfl
theorem a5L (a0 : Int) (a1 : Int) : Pu Tryd.prog (xV (Instr.build 44 #[(0, (Value.int .i64 a0)), (1, (Value.int .i64 a1))])) (.agg #[(Value.int .i64 a0), (Value.int .i64 a1)]) := Pu.ok fun w => by kernel_rfl
theorem X8 {g o : Nat} : Pu Tryd.prog (xV (Instr.fieldAt 25 (.pointer (some ⟨g, o, none⟩)) 3)) (.pointer (some ⟨g, o + 3, none⟩)) := Pu.ok fun w => by kernel_rfl
theorem a1e {g o : Nat} : Pu Tryd.prog (xV (Instr.fieldAt 25 (.pointer (some ⟨g, o, none⟩)) 2)) (.pointer (some ⟨g, o + 2, none⟩)) := Pu.ok fun w => by kernel_rfl
theorem a7r {g o : Nat} : Pu Tryd.prog (xV (Instr.fieldAt 46 (.pointer (some ⟨g, o, none⟩)) 3)) (.pointer (some ⟨g, o + 3, none⟩)) := Pu.ok fun w => by kernel_rfl
theorem a0d (a : Option Addr) (n c : Nat) : Pu Tryd.prog (xBuiltin .len #[23] 3 [false] [.slice a n c]) (.int .i64 (n : Int)) := M8 Tryd.underlying23 a n c
theorem a7s {g o : Nat} : Pu Tryd.prog (xV (Instr.fieldAt 30 (.pointer (some ⟨g, o, none⟩)) 0)) (.pointer (some ⟨g, o + 0, none⟩)) := Pu.ok fun w => by kernel_rfl
theorem a4n (a : Option Addr) (n c : Nat) : Pu Tryd.prog (xBuiltin .len #[26] 3 [false] [.slice a n c]) (.int .i64 (n : Int)) := M8 Tryd.underlying26 a n c
theorem a7t {g o : Nat} : Pu Tryd.prog (xV (Instr.fieldAt 44 (.pointer (some ⟨g, o, none⟩)) 0)) (.pointer (some ⟨g, o + 0, none⟩)) := Pu.ok fun w => by kernel_rfl
theorem a1V {g o : Nat} : Pu Tryd.prog (xV (Instr.fieldAt 46 (.pointer (some ⟨g, o, none⟩)) 6)) (.pointer (some ⟨g, o + 6, none⟩)) := Pu.ok fun w => by kernel_rfl
theorem a5c {g o : Nat} : Pu Tryd.prog (xV (Instr.fieldAt 59 (.pointer (some ⟨g, o, none⟩)) 2)) (.pointer (some ⟨g, o + 7, none⟩)) := Pu.ok fun w => by kernel_rfl
theorem a7u {g o : Nat} : Pu Tryd.prog (xV (Instr.fieldAt 46 (.pointer (some ⟨g, o, none⟩)) 4)) (.pointer (some ⟨g, o + 4, none⟩)) := Pu.ok fun w => by kernel_rfl
theorem b4E (N2 : Int) (N3 : Int) (a3N : Int) (b5v : Int) (b5w : Int) (b5x : Int) (b1S : Int) (b1T : Int) (b1U : Int) (b1V : Int) (w : World) : (Instr.buildSlice 28 1 #[(0, (Value.agg #[(Value.int .i64 N2), (Value.int .i64 N3), (Value.int .i64 a3N), (Value.int .i64 b5v), (Value.int .i64 b5w), (Value.int .i64 b5x), (Value.int .i64 b1S), (Value.int .i64 b1T), (Value.int .i64 b1U), (Value.int .i64 b1V)]))]).run Tryd.prog w = .ok (.slice (some ⟨w.heap.size, 0, none⟩) 1 1) (w.alloc (.cells [(Value.int .i64 N2), (Value.int .i64 N3), (Value.int .i64 a3N), (Value.int .i64 b5v), (Value.int .i64 b5w), (Value.int .i64 b5x), (Value.int .i64 b1S), (Value.int .i64 b1T), (Value.int .i64 b1U), (Value.int .i64 b1V)].toArray 46)) := by kernel_rfl
theorem b5y : Tryd.prog.info? 46 = some ((Tryd.prog.info? 46).getD default) := by kernel_rfl
theorem b5z {E : Pan} {w0 w : World} {ps : Nat → Prop} {H0 H : Hp} {Fs : List Frag} {K : Value → World → Prop} {s : Sl} {xs : List c8} {F : Frag} {t2 : Sl} {ys : List c8} {ks : List Bool} {ty : TypeId} (I : Inv w0 ps H0 H (F :: Fs) w) (hr : RowL 46 10 g9 s xs F) (hs : SrcO w g9 t2 ys) (hb : (xs.length + ys.length) * 81 ≤ 140737488355328) (h : ∀ (s' : Sl) (F' : Frag) (w' : World), RowL 46 10 g9 s' (xs ++ ys) F' → Inv w0 ps H0 H (F' :: Fs) w' → (∀ k, k < w.heap.size → (∀ p ∈ F, p.1 ≠ k) → w'.heap[k]? = w.heap[k]?) → K (.slice s'.a s'.n s'.c) w') : opK Tryd.prog E (xBuiltin .append #[28, 28] ty ks [.slice s.a s.n s.c, .slice t2.a t2.n t2.c]) w K :=
  a6p (bytes := 80) Tryd.underlying28 b5y (z := (Value.agg #[(Value.int .i64 0), (Value.int .i64 0), (Value.int .i64 0), (Value.int .i64 0), (Value.int .i64 0), (Value.int .i64 0), (Value.int .i64 0), (Value.int .i64 0), (Value.int .i64 0), (Value.int .i64 0)])) (by kernel_rfl) (by kernel_rfl) (by kernel_rfl) (by kernel_rfl) I hr hs hb h
theorem a5d {g o : Nat} : Pu Tryd.prog (xV (Instr.fieldAt 46 (.pointer (some ⟨g, o, none⟩)) 7)) (.pointer (some ⟨g, o + 8, none⟩)) := Pu.ok fun w => by kernel_rfl
theorem a0g {g o : Nat} : Pu Tryd.prog (xV (Instr.fieldAt 39 (.pointer (some ⟨g, o, none⟩)) 3)) (.pointer (some ⟨g, o + 3, none⟩)) := Pu.ok fun w => by kernel_rfl
theorem R5 {a : Option Addr} {g o : Nat} (ha : a = some ⟨g, o, none⟩) (len cap : Nat) (k : IntKind) (i : Int) (h0 : 0 ≤ i) (h1 : i < len) : Pu Tryd.prog (xV (Instr.indexAt 36 (.slice a len cap) (.int k i))) (.pointer (some ⟨g, o + i.toNat * 4, none⟩)) := P6 Tryd.underlying36 Tryd.sizeOf89 ha len cap k i h0 h1
theorem a5e {g o : Nat} : Pu Tryd.prog (xV (Instr.fieldAt 89 (.pointer (some ⟨g, o, none⟩)) 0)) (.pointer (some ⟨g, o + 0, none⟩)) := Pu.ok fun w => by kernel_rfl
theorem X9 {g o : Nat} : Pu Tryd.prog (xV (Instr.fieldAt 89 (.pointer (some ⟨g, o, none⟩)) 3)) (.pointer (some ⟨g, o + 3, none⟩)) := Pu.ok fun w => by kernel_rfl
theorem a3q {g o : Nat} : Pu Tryd.prog (xV (Instr.fieldAt 89 (.pointer (some ⟨g, o, none⟩)) 2)) (.pointer (some ⟨g, o + 2, none⟩)) := Pu.ok fun w => by kernel_rfl
theorem a1W {g o : Nat} : Pu Tryd.prog (xV (Instr.fieldAt 89 (.pointer (some ⟨g, o, none⟩)) 1)) (.pointer (some ⟨g, o + 1, none⟩)) := Pu.ok fun w => by kernel_rfl
theorem a7v {g o : Nat} : Pu Tryd.prog (xV (Instr.fieldAt 46 (.pointer (some ⟨g, o, none⟩)) 5)) (.pointer (some ⟨g, o + 5, none⟩)) := Pu.ok fun w => by kernel_rfl
theorem a3r {g o : Nat} : Pu Tryd.prog (xV (Instr.fieldAt 35 (.pointer (some ⟨g, o, none⟩)) 1)) (.pointer (some ⟨g, o + 1, none⟩)) := Pu.ok fun w => by kernel_rfl
theorem a5f {g o : Nat} : Pu Tryd.prog (xV (Instr.fieldAt 41 (.pointer (some ⟨g, o, none⟩)) 0)) (.pointer (some ⟨g, o + 0, none⟩)) := Pu.ok fun w => by kernel_rfl
theorem b0Z  : Pu Tryd.prog (xV (Instr.build 103 #[])) (.agg #[(Value.slice none 0 0)]) := Pu.ok fun w => by kernel_rfl
abbrev o4 (x : d4) : List Value := [(Value.string x.fname), (Value.int .i64 x.fas)]
theorem a0y (x : d4) : (o4 x).length = 2 := rfl
theorem a0z (x : d4) : (o4 x).all (·.oneCell') = true := rfl
theorem P8 {g o : Nat} : Pu Tryd.prog (xV (Instr.fieldAt 103 (.pointer (some ⟨g, o, none⟩)) 0)) (.pointer (some ⟨g, o + 0, none⟩)) := Pu.ok fun w => by kernel_rfl
theorem a1f (a0 : ByteArray) (a1 : Int) : Pu Tryd.prog (xV (Instr.build 106 #[(0, (Value.string a0)), (1, (Value.int .i64 a1))])) (.agg #[(Value.string a0), (Value.int .i64 a1)]) := Pu.ok fun w => by kernel_rfl
theorem a5g (N2 : ByteArray) (N3 : Int) (w : World) : (Instr.buildSlice 101 1 #[(0, (Value.agg #[(Value.string N2), (Value.int .i64 N3)]))]).run Tryd.prog w = .ok (.slice (some ⟨w.heap.size, 0, none⟩) 1 1) (w.alloc (.cells [(Value.string N2), (Value.int .i64 N3)].toArray 106)) := by kernel_rfl
theorem b4F : Tryd.prog.info? 106 = some ((Tryd.prog.info? 106).getD default) := by kernel_rfl
theorem a6t {E : Pan} {w0 w : World} {ps : Nat → Prop} {H0 H : Hp} {Fs : List Frag} {K : Value → World → Prop} {s : Sl} {xs : List d4} {F : Frag} {t2 : Sl} {ys : List d4} {ks : List Bool} {ty : TypeId} (I : Inv w0 ps H0 H (F :: Fs) w) (hr : RowL 106 2 o4 s xs F) (hs : SrcO w o4 t2 ys) (hb : (xs.length + ys.length) * 25 ≤ 140737488355328) (h : ∀ (s' : Sl) (F' : Frag) (w' : World), RowL 106 2 o4 s' (xs ++ ys) F' → Inv w0 ps H0 H (F' :: Fs) w' → (∀ k, k < w.heap.size → (∀ p ∈ F, p.1 ≠ k) → w'.heap[k]? = w.heap[k]?) → K (.slice s'.a s'.n s'.c) w') : opK Tryd.prog E (xBuiltin .append #[101, 101] ty ks [.slice s.a s.n s.c, .slice t2.a t2.n t2.c]) w K :=
  a6p (bytes := 24) Tryd.underlying101 b4F (z := (Value.agg #[(Value.string ⟨#[]⟩), (Value.int .i64 0)])) (by kernel_rfl) (by kernel_rfl) (by kernel_rfl) (by kernel_rfl) I hr hs hb h
theorem a2H (a : Option Addr) (n c : Nat) : Pu Tryd.prog (xBuiltin .len #[36] 3 [false] [.slice a n c]) (.int .i64 (n : Int)) := M8 Tryd.underlying36 a n c
theorem b1W {a : Option Addr} {g o : Nat} (ha : a = some ⟨g, o, none⟩) (len cap : Nat) (k : IntKind) (i : Int) (h0 : 0 ≤ i) (h1 : i < len) : Pu Tryd.prog (xV (Instr.indexAt 101 (.slice a len cap) (.int k i))) (.pointer (some ⟨g, o + i.toNat * 2, none⟩)) := P6 Tryd.underlying101 Tryd.sizeOf106 ha len cap k i h0 h1
theorem a4t {g o : Nat} : Pu Tryd.prog (xV (Instr.fieldAt 106 (.pointer (some ⟨g, o, none⟩)) 0)) (.pointer (some ⟨g, o + 0, none⟩)) := Pu.ok fun w => by kernel_rfl
theorem b0u {g o : Nat} : Pu Tryd.prog (xV (Instr.fieldAt 106 (.pointer (some ⟨g, o, none⟩)) 1)) (.pointer (some ⟨g, o + 1, none⟩)) := Pu.ok fun w => by kernel_rfl
theorem b0v (x y : Operand) (s : Sl) : Pu Tryd.prog (xBin .eql 27 x y (vs s) (.slice none 0 0)) (.bool s.a.isNone) := b1N _ _ _ s Tryd.underlying27
theorem b4G  (w : World) : (Instr.buildSlice 27 0 #[]).run Tryd.prog w = .ok (.slice (some ⟨w.heap.size, 0, none⟩) 0 0) (w.alloc (.cells [].toArray 35)) := by kernel_rfl
theorem b5A : Tryd.prog.info? 35 = some ((Tryd.prog.info? 35).getD default) := by kernel_rfl
theorem b5B {E : Pan} {w0 w : World} {ps : Nat → Prop} {H0 H : Hp} {Fs : List Frag} {K : Value → World → Prop} {s : Sl} {xs : List i8} {F : Frag} {t2 : Sl} {ys : List i8} {ks : List Bool} {ty : TypeId} (I : Inv w0 ps H0 H (F :: Fs) w) (hr : RowL 35 2 f7 s xs F) (hs : SrcO w f7 t2 ys) (hb : (xs.length + ys.length) * 25 ≤ 140737488355328) (h : ∀ (s' : Sl) (F' : Frag) (w' : World), RowL 35 2 f7 s' (xs ++ ys) F' → Inv w0 ps H0 H (F' :: Fs) w' → (∀ k, k < w.heap.size → (∀ p ∈ F, p.1 ≠ k) → w'.heap[k]? = w.heap[k]?) → K (.slice s'.a s'.n s'.c) w') : opK Tryd.prog E (xBuiltin .append #[27, 27] ty ks [.slice s.a s.n s.c, .slice t2.a t2.n t2.c]) w K :=
  a6p (bytes := 24) Tryd.underlying27 b5A (z := (Value.agg #[(Value.string ⟨#[]⟩), (Value.int .i64 0)])) (by kernel_rfl) (by kernel_rfl) (by kernel_rfl) (by kernel_rfl) I hr hs hb h
theorem a4h (a0 : Int) (a1 : Int) (a2 : Int) (a3 : Int) (a4 : Int) (a9c : Int) (a9d : Int) (a9e : Int) (a9f : Int) : Pu Tryd.prog (xV (Instr.build 46 #[(0, (Value.int .i64 a0)), (1, (Value.int .i64 a1)), (2, (Value.int .i64 a2)), (3, (Value.int .i64 a3)), (4, (Value.int .i64 a4)), (6, (Value.agg #[(Value.int .i64 a9c), (Value.int .i64 a9d)])), (7, (Value.agg #[(Value.int .i64 a9e), (Value.int .i64 a9f)]))])) (.agg #[(Value.int .i64 a0), (Value.int .i64 a1), (Value.int .i64 a2), (Value.int .i64 a3), (Value.int .i64 a4), (Value.int .i64 0), (Value.int .i64 a9c), (Value.int .i64 a9d), (Value.int .i64 a9e), (Value.int .i64 a9f)]) := Pu.ok fun w => by kernel_rfl
theorem a3O (a0 a1 a2 a3 a4 a5 a6 : Int) : Pu Tryd.prog (xV (Instr.build 114 #[(0, .int .i64 a0), (1, .int .i64 a1), (2, .int .i64 a2), (3, .int .i64 a3), (4, .int .i64 a4), (5, .int .i64 a5), (6, .int .i64 a6)])) (.agg #[.int .i64 a0, .int .i64 a1, .int .i64 a2, .int .i64 a3, .int .i64 a4, .int .i64 a5, .int .i64 a6]) := Pu.ok fun w => by kernel_rfl
theorem b1a (a0 a1 a2 a3 a4 a5 a6 : Int) (k : IntKind) (i : Int) (h0 : 0 ≤ i) (h1 : i < 7) : Pu Tryd.prog (xV (Instr.index 114 (.agg #[.int .i64 a0, .int .i64 a1, .int .i64 a2, .int .i64 a3, .int .i64 a4, .int .i64 a5, .int .i64 a6]) (.int k i))) (.int .i64 (([a0, a1, a2, a3, a4, a5, a6] : List Int).getD i.toNat 0)) := by
  obtain rfl | rfl | rfl | rfl | rfl | rfl | rfl := (by omega : i = 0 ∨ i = 1 ∨ i = 2 ∨ i = 3 ∨ i = 4 ∨ i = 5 ∨ i = 6)
  · exact Pu.ok fun w => by kernel_rfl
  · exact Pu.ok fun w => by kernel_rfl
  · exact Pu.ok fun w => by kernel_rfl
  · exact Pu.ok fun w => by kernel_rfl
  · exact Pu.ok fun w => by kernel_rfl
  · exact Pu.ok fun w => by kernel_rfl
  · exact Pu.ok fun w => by kernel_rfl
theorem a1A {g o : Nat} : Pu Tryd.prog (xV (Instr.fieldAt 116 (.pointer (some ⟨g, o, none⟩)) 2)) (.pointer (some ⟨g, o + 2, none⟩)) := Pu.ok fun w => by kernel_rfl
theorem a9g (a0a : Option Addr) (a0n a0c : Nat) (a1a : Option Addr) (a1n a1c : Nat) (w : World) : (Instr.buildSlice 135 2 #[(0, (Value.slice a0a a0n a0c)), (1, (Value.slice a1a a1n a1c))]).run Tryd.prog w = .ok (.slice (some ⟨w.heap.size, 0, none⟩) 2 2) (w.alloc (.cells [(Value.slice a0a a0n a0c), (Value.slice a1a a1n a1c)].toArray 123)) := by kernel_rfl
theorem a2I (a5 a6 a7 a8 a9 a10 a3 a4 : Int) : Pu Tryd.prog (xV (Instr.build 131 #[(5, .int .i64 a5), (6, .int .i64 a6), (7, .int .i64 a7), (8, .int .i64 a8), (9, .int .i64 a9), (10, .int .i64 a10), (3, .int .i64 a3), (4, .int .i64 a4)])) (.agg #[.int .i64 0, .int .i64 0, .int .i64 0, .int .i64 a3, .int .i64 a4, .int .i64 a5, .int .i64 a6, .int .i64 a7, .int .i64 a8, .int .i64 a9, .int .i64 a10]) := Pu.ok fun w => by kernel_rfl
theorem b1b (a0 a1 a2 a3 a4 a5 a6 a7 a8 a9 a10 : Int) (k : IntKind) (i : Int) (h0 : 0 ≤ i) (h1 : i < 11) : Pu Tryd.prog (xV (Instr.index 131 (.agg #[.int .i64 a0, .int .i64 a1, .int .i64 a2, .int .i64 a3, .int .i64 a4, .int .i64 a5, .int .i64 a6, .int .i64 a7, .int .i64 a8, .int .i64 a9, .int .i64 a10]) (.int k i))) (.int .i64 (([a0, a1, a2, a3, a4, a5, a6, a7, a8, a9, a10] : List Int).getD i.toNat 0)) := by
  obtain rfl | rfl | rfl | rfl | rfl | rfl | rfl | rfl | rfl | rfl | rfl := (by omega : i = 0 ∨ i = 1 ∨ i = 2 ∨ i = 3 ∨ i = 4 ∨ i = 5 ∨ i = 6 ∨ i = 7 ∨ i = 8 ∨ i = 9 ∨ i = 10)
  · exact Pu.ok fun w => by kernel_rfl
  · exact Pu.ok fun w => by kernel_rfl
  · exact Pu.ok fun w => by kernel_rfl
  · exact Pu.ok fun w => by kernel_rfl
  · exact Pu.ok fun w => by kernel_rfl
  · exact Pu.ok fun w => by kernel_rfl
  · exact Pu.ok fun w => by kernel_rfl
  · exact Pu.ok fun w => by kernel_rfl
  · exact Pu.ok fun w => by kernel_rfl
  · exact Pu.ok fun w => by kernel_rfl
  · exact Pu.ok fun w => by kernel_rfl
theorem b1c  : Pu Tryd.prog (xV (Instr.build 116 #[])) (.agg #[(Value.int .i64 0), (Value.int .i64 0), (Value.int .i64 0), (Value.bool false), (Value.bool false), (Value.slice none 0 0)]) := Pu.ok fun w => by kernel_rfl
theorem a3s (a : Option Addr) (n c : Nat) : Pu Tryd.prog (xBuiltin .len #[123] 3 [false] [.slice a n c]) (.int .i64 (n : Int)) := M8 Tryd.underlying123 a n c
theorem b1X {a : Option Addr} {g o : Nat} (ha : a = some ⟨g, o, none⟩) (len cap : Nat) (k : IntKind) (i : Int) (h0 : 0 ≤ i) (h1 : i < len) : Pu Tryd.prog (xV (Instr.indexAt 123 (.slice a len cap) (.int k i))) (.pointer (some ⟨g, o + i.toNat * 1, none⟩)) := P6 Tryd.underlying123 Tryd.sizeOf126 ha len cap k i h0 h1
theorem a4u {g o : Nat} : Pu Tryd.prog (xV (Instr.fieldAt 116 (.pointer (some ⟨g, o, none⟩)) 0)) (.pointer (some ⟨g, o + 0, none⟩)) := Pu.ok fun w => by kernel_rfl
theorem a6Q {g o : Nat} : Pu Tryd.prog (xV (Instr.fieldAt 116 (.pointer (some ⟨g, o, none⟩)) 1)) (.pointer (some ⟨g, o + 1, none⟩)) := Pu.ok fun w => by kernel_rfl
theorem a4v {g o : Nat} : Pu Tryd.prog (xV (Instr.fieldAt 116 (.pointer (some ⟨g, o, none⟩)) 3)) (.pointer (some ⟨g, o + 3, none⟩)) := Pu.ok fun w => by kernel_rfl
theorem a4w {g o : Nat} : Pu Tryd.prog (xV (Instr.fieldAt 116 (.pointer (some ⟨g, o, none⟩)) 4)) (.pointer (some ⟨g, o + 4, none⟩)) := Pu.ok fun w => by kernel_rfl
theorem a4x {g o : Nat} : Pu Tryd.prog (xV (Instr.fieldAt 116 (.pointer (some ⟨g, o, none⟩)) 5)) (.pointer (some ⟨g, o + 5, none⟩)) := Pu.ok fun w => by kernel_rfl
theorem a7w (a : Option Addr) (n c : Nat) : Pu Tryd.prog (xBuiltin .len #[135] 3 [false] [.slice a n c]) (.int .i64 (n : Int)) := M8 Tryd.underlying135 a n c
theorem a8o {a : Option Addr} {g o : Nat} (ha : a = some ⟨g, o, none⟩) (len cap : Nat) (k : IntKind) (i : Int) (h0 : 0 ≤ i) (h1 : i < len) : Pu Tryd.prog (xV (Instr.indexAt 135 (.slice a len cap) (.int k i))) (.pointer (some ⟨g, o + i.toNat * 1, none⟩)) := P6 Tryd.underlying135 Tryd.sizeOf123 ha len cap k i h0 h1
theorem b1Y (s : ByteArray) : Pu Tryd.prog (xV (Instr.makeInterface 9 (.string s))) (.iface 9 (.string s)) := Pu.ok fun w => by kernel_rfl
abbrev j8 (x : c7) : List Value := [(u9 x)]
theorem D4 (x : c7) : (j8 x).length = 1 := rfl
theorem G1 (x : c7) : (j8 x).all (·.oneCell') = true := a8A x
theorem b0J : Tryd.prog.info? 126 = some ((Tryd.prog.info? 126).getD default) := by kernel_rfl
theorem a4I {E : Pan} {w0 w : World} {ps : Nat → Prop} {H0 H : Hp} {Fs : List Frag} {K : Value → World → Prop} {s : Sl} {xs : List c7} {F : Frag} {t2 : Sl} {ys : List c7} {ks : List Bool} {ty : TypeId} (I : Inv w0 ps H0 H (F :: Fs) w) (hr : RowL 126 1 j8 s xs F) (hs : SrcO w j8 t2 ys) (hb : (xs.length + ys.length) * 17 ≤ 140737488355328) (h : ∀ (s' : Sl) (F' : Frag) (w' : World), RowL 126 1 j8 s' (xs ++ ys) F' → Inv w0 ps H0 H (F' :: Fs) w' → (∀ k, k < w.heap.size → (∀ p ∈ F, p.1 ≠ k) → w'.heap[k]? = w.heap[k]?) → K (.slice s'.a s'.n s'.c) w') : opK Tryd.prog E (xBuiltin .append #[123, 123] ty ks [.slice s.a s.n s.c, .slice t2.a t2.n t2.c]) w K :=
  a6p (bytes := 16) Tryd.underlying123 b0J (z := Value.nilIface) (by kernel_rfl) (by kernel_rfl) (by kernel_rfl) (by kernel_rfl) I hr hs hb h
theorem a9h (N2 : ByteArray) (N3 : Int) : Pu Tryd.prog (xV (Instr.build 138 #[(0, (Value.agg #[(Value.string N2), (Value.int .i64 N3)]))])) (.agg #[(Value.string N2), (Value.int .i64 N3)]) := Pu.ok fun w => by kernel_rfl
theorem a7Q (x : J9) : Pu Tryd.prog (xV (Instr.makeInterface 138 (.agg #[(Value.string x.M0.f0), (Value.int .i64 x.M0.X5)]))) (u9 (c7.A6 x)) := Pu.ok fun w => rfl
theorem a9i (N2 : Int) (N3 : ByteArray) (a0_2a : Option Addr) (a0_2n a0_2c : Nat) (a0_3a : Option Addr) (a0_3n a0_3c : Nat) (a0_4a : Option Addr) (a0_4n a0_4c : Nat) (a0_5a : Option Addr) (a0_5n a0_5c : Nat) : Pu Tryd.prog (xV (Instr.build 140 #[(0, (Value.agg #[(Value.int .i64 N2), (Value.string N3), (Value.slice a0_2a a0_2n a0_2c), (Value.slice a0_3a a0_3n a0_3c), (Value.slice a0_4a a0_4n a0_4c), (Value.slice a0_5a a0_5n a0_5c)]))])) (.agg #[(Value.int .i64 N2), (Value.string N3), (Value.slice a0_2a a0_2n a0_2c), (Value.slice a0_3a a0_3n a0_3c), (Value.slice a0_4a a0_4n a0_4c), (Value.slice a0_5a a0_5n a0_5c)]) := Pu.ok fun w => by kernel_rfl
theorem a7R (x : E4) : Pu Tryd.prog (xV (Instr.makeInterface 140 (.agg #[(Value.int .i64 x.d6.d5), (Value.string x.d6.f0), (Value.slice x.d6.g5.a x.d6.g5.n x.d6.g5.c), (Value.slice x.d6.o3.a x.d6.o3.n x.d6.o3.c), (Value.slice x.d6.E2.a x.d6.E2.n x.d6.E2.c), (Value.slice x.d6.E3.a x.d6.E3.n x.d6.E3.c)]))) (u9 (c7.v7 x)) := Pu.ok fun w => rfl
theorem a8E (x : c7) : Pu Tryd.prog (xV (Instr.typeAssert (u9 x) 126 138 true)) (.tuple #[(Value.agg #[(Value.string ((((x.U6)).M0).f0)), (Value.int .i64 ((((x.U6)).M0).X5))]), .bool (x.a0W)]) := by
  cases x <;> exact Pu.ok fun w => by kernel_rfl
theorem a4y {g o : Nat} : Pu Tryd.prog (xV (Instr.fieldAt 138 (.pointer (some ⟨g, o, none⟩)) 0)) (.pointer (some ⟨g, o + 0, none⟩)) := Pu.ok fun w => by kernel_rfl
theorem a8F (x : c7) : Pu Tryd.prog (xV (Instr.typeAssert (u9 x) 126 140 true)) (.tuple #[(Value.agg #[(Value.int .i64 ((((x.m0)).d6).d5)), (Value.string ((((x.m0)).d6).f0)), (Value.slice ((((x.m0)).d6).g5).a ((((x.m0)).d6).g5).n ((((x.m0)).d6).g5).c), (Value.slice ((((x.m0)).d6).o3).a ((((x.m0)).d6).o3).n ((((x.m0)).d6).o3).c), (Value.slice ((((x.m0)).d6).E2).a ((((x.m0)).d6).E2).n ((((x.m0)).d6).E2).c), (Value.slice ((((x.m0)).d6).E3).a ((((x.m0)).d6).E3).n ((((x.m0)).d6).E3).c)]), .bool (x.a0X)]) := by
  cases x <;> exact Pu.ok fun w => by kernel_rfl
theorem B6 {g o : Nat} : Pu Tryd.prog (xV (Instr.fieldAt 140 (.pointer (some ⟨g, o, none⟩)) 0)) (.pointer (some ⟨g, o + 0, none⟩)) := Pu.ok fun w => by kernel_rfl
theorem a8G (x : c7) : Pu Tryd.prog (xV (Instr.typeAssert (u9 x) 126 146 true)) (.tuple #[(Value.agg #[(Value.int .i64 ((((x.v1)).j9).d5)), (Value.int .i64 ((((x.v1)).j9).v8)), (Value.string ((((x.v1)).j9).f0)), (Value.slice ((((x.v1)).j9).u5).a ((((x.v1)).j9).u5).n ((((x.v1)).j9).u5).c)]), .bool (x.a0Y)]) := by
  cases x <;> exact Pu.ok fun w => by kernel_rfl
theorem M7 {g o : Nat} : Pu Tryd.prog (xV (Instr.fieldAt 146 (.pointer (some ⟨g, o, none⟩)) 0)) (.pointer (some ⟨g, o + 0, none⟩)) := Pu.ok fun w => by kernel_rfl
theorem a9j {a : Option Addr} {g o : Nat} (ha : a = some ⟨g, o, none⟩) (len cap : Nat) (k : IntKind) (i : Int) (h0 : 0 ≤ i) (h1 : i < len) : Pu Tryd.prog (xV (Instr.indexAt 26 (.slice a len cap) (.int k i))) (.pointer (some ⟨g, o + i.toNat * 1, none⟩)) := P6 Tryd.underlying26 Tryd.sizeOf9 ha len cap k i h0 h1
theorem U7 (a0 : Int) (a1 : Int) : Pu Tryd.prog (xV (Instr.build 175 #[(0, (Value.int .i64 a0)), (1, (Value.int .i64 a1))])) (.agg #[(Value.int .i64 a0), (Value.int .i64 a1)]) := Pu.ok fun w => by kernel_rfl
theorem b4H (d : Nat) (a0 b0 : Int) (a1 b1 : Int) (w : World) : (Op.equalIn (d + 2) 175 (.agg #[(Value.int .i64 a0), (Value.int .i64 a1)]) (.agg #[(Value.int .i64 b0), (Value.int .i64 b1)])).run Tryd.prog w = .ok (decide (a0 = b0 ∧ a1 = b1)) w := by
  have u3 := Tryd.underlying3
  have i3 := Tryd.isAgg3
  have s3 := Tryd.sizeOf3
  have hS : Tryd.prog.underlying 175 = some (.struct (Tryd.prog.fieldsOf 175)) := by kernel_rfl
  rw [run_equalIn_agg w (d + 1) 175 _ _ hS (by kernel_rfl)]
  simp only [Program.fieldsOf, Tryd.underlying175]
  go_simp
  try simp only [a4W]
  by_cases h0 : a0 = b0
  · by_cases h1 : a1 = b1
    · simp [h0, h1]
    · simp [h0, h1]
  · simp [h0]
theorem a1L (x y : Operand) (a0 b0 : Int) (a1 b1 : Int) : Pu Tryd.prog (xBin .eql 175 x y (.agg #[(Value.int .i64 a0), (Value.int .i64 a1)]) (.agg #[(Value.int .i64 b0), (Value.int .i64 b1)])) (.bool (decide (a0 = b0 ∧ a1 = b1))) := by
  refine Pu.ok (s := do eqGuard .eql 175 x y (.agg #[(Value.int .i64 a0), (Value.int .i64 a1)]) (.agg #[(Value.int .i64 b0), (Value.int .i64 b1)]); binOp .eql 175 (.agg #[(Value.int .i64 a0), (Value.int .i64 a1)]) (.agg #[(Value.int .i64 b0), (Value.int .i64 b1)])) fun w => ?_
  rw [Sem.run_bind, run_eqGuard_agg w _ _ _ _ _ _ (by kernel_rfl), Result.andThen_ok, run_eql_struct, show (10000 : Nat) = 9998 + 2 from rfl, b4H]
  rfl
theorem b1d  : Pu Tryd.prog (xV (Instr.build 175 #[])) (.agg #[(Value.int .i64 0), (Value.int .i64 0)]) := Pu.ok fun w => by kernel_rfl
theorem b3f (a0a : Option Addr) (a0n a0c : Nat) (a1a : Option Addr) (a1n a1c : Nat) (a2a : Option Addr) (a2n a2c : Nat) (a3a : Option Addr) (a3n a3c : Nat) (w : World) : (Instr.buildSlice 135 4 #[(0, (Value.slice a0a a0n a0c)), (1, (Value.slice a1a a1n a1c)), (2, (Value.slice a2a a2n a2c)), (3, (Value.slice a3a a3n a3c))]).run Tryd.prog w = .ok (.slice (some ⟨w.heap.size, 0, none⟩) 4 4) (w.alloc (.cells [(Value.slice a0a a0n a0c), (Value.slice a1a a1n a1c), (Value.slice a2a a2n a2c), (Value.slice a3a a3n a3c)].toArray 123)) := by kernel_rfl
theorem a9k (N2 : Int) (N3 : Int) (a0_2a : Option Addr) (a0_2n a0_2c : Nat) (a0_3a : Option Addr) (a0_3n a0_3c : Nat) : Pu Tryd.prog (xV (Instr.build 181 #[(0, (Value.agg #[(Value.int .i64 N2), (Value.int .i64 N3), (Value.slice a0_2a a0_2n a0_2c), (Value.slice a0_3a a0_3n a0_3c)]))])) (.agg #[(Value.int .i64 N2), (Value.int .i64 N3), (Value.slice a0_2a a0_2n a0_2c), (Value.slice a0_3a a0_3n a0_3c)]) := Pu.ok fun w => by kernel_rfl
theorem a7S (x : E5) : Pu Tryd.prog (xV (Instr.makeInterface 181 (.agg #[(Value.int .i64 x.j6.d5), (Value.int .i64 x.j6.fOp), (Value.slice x.j6.g5.a x.j6.g5.n x.j6.g5.c), (Value.slice x.j6.o7.a x.j6.o7.n x.j6.o7.c)]))) (u9 (c7.B3 x)) := Pu.ok fun w => rfl
theorem a9l (N2 : Int) (N3 : Int) (a3N : ByteArray) (a0_3a : Option Addr) (a0_3n a0_3c : Nat) : Pu Tryd.prog (xV (Instr.build 146 #[(0, (Value.agg #[(Value.int .i64 N2), (Value.int .i64 N3), (Value.string a3N), (Value.slice a0_3a a0_3n a0_3c)]))])) (.agg #[(Value.int .i64 N2), (Value.int .i64 N3), (Value.string a3N), (Value.slice a0_3a a0_3n a0_3c)]) := Pu.ok fun w => by kernel_rfl
theorem a4J (x : B2) : Pu Tryd.prog (xV (Instr.makeInterface 146 (.agg #[(Value.int .i64 x.j9.d5), (Value.int .i64 x.j9.v8), (Value.string x.j9.f0), (Value.slice x.j9.u5.a x.j9.u5.n x.j9.u5.c)]))) (u9 (c7.u7 x)) := Pu.ok fun w => rfl
theorem P9 {g o : Nat} : Pu Tryd.prog (xV (Instr.fieldAt 181 (.pointer (some ⟨g, o, none⟩)) 0)) (.pointer (some ⟨g, o + 0, none⟩)) := Pu.ok fun w => by kernel_rfl
theorem a1g (a0 : Int) (a1 : Int) : Pu Tryd.prog (xV (Instr.build 184 #[(0, (Value.int .i64 a0)), (1, (Value.int .i64 a1))])) (.agg #[(Value.int .i64 a0), (Value.int .i64 a1)]) := Pu.ok fun w => by kernel_rfl
theorem b4I (d : Nat) (a0 b0 : Int) (a1 b1 : Int) (w : World) : (Op.equalIn (d + 2) 184 (.agg #[(Value.int .i64 a0), (Value.int .i64 a1)]) (.agg #[(Value.int .i64 b0), (Value.int .i64 b1)])).run Tryd.prog w = .ok (decide (a0 = b0 ∧ a1 = b1)) w := by
  have u3 := Tryd.underlying3
  have i3 := Tryd.isAgg3
  have s3 := Tryd.sizeOf3
  have hS : Tryd.prog.underlying 184 = some (.struct (Tryd.prog.fieldsOf 184)) := by kernel_rfl
  rw [run_equalIn_agg w (d + 1) 184 _ _ hS (by kernel_rfl)]
  simp only [Program.fieldsOf, Tryd.underlying184]
  go_simp
  try simp only [a4W]
  by_cases h0 : a0 = b0
  · by_cases h1 : a1 = b1
    · simp [h0, h1]
    · simp [h0, h1]
  · simp [h0]
theorem a4o (x y : Operand) (a0 b0 : Int) (a1 b1 : Int) : Pu Tryd.prog (xBin .eql 184 x y (.agg #[(Value.int .i64 a0), (Value.int .i64 a1)]) (.agg #[(Value.int .i64 b0), (Value.int .i64 b1)])) (.bool (decide (a0 = b0 ∧ a1 = b1))) := by
  refine Pu.ok (s := do eqGuard .eql 184 x y (.agg #[(Value.int .i64 a0), (Value.int .i64 a1)]) (.agg #[(Value.int .i64 b0), (Value.int .i64 b1)]); binOp .eql 184 (.agg #[(Value.int .i64 a0), (Value.int .i64 a1)]) (.agg #[(Value.int .i64 b0), (Value.int .i64 b1)])) fun w => ?_
  rw [Sem.run_bind, run_eqGuard_agg w _ _ _ _ _ _ (by kernel_rfl), Result.andThen_ok, run_eql_struct, show (10000 : Nat) = 9998 + 2 from rfl, b4I]
  rfl
theorem b1e  : Pu Tryd.prog (xV (Instr.build 184 #[])) (.agg #[(Value.int .i64 0), (Value.int .i64 0)]) := Pu.ok fun w => by kernel_rfl
theorem a5h (a0 : c7) (w : World) : (Instr.buildSlice 123 1 #[(0, (u9 a0))]).run Tryd.prog w = .ok (.slice (some ⟨w.heap.size, 0, none⟩) 1 1) (w.alloc (.cells [(u9 a0)].toArray 126)) := by cases a0 <;> kernel_rfl
abbrev m5 (x : o8) : List Value := [(Value.slice x.a3M.a x.a3M.n x.a3M.c), (Value.slice x.a3l.a x.a3l.n x.a3l.c)]
abbrev A4 (x : D3) : List Value := [(Value.slice x.u6.a x.u6.n x.u6.c), (Value.int .i64 x.C5), (Value.slice x.z8.a x.z8.n x.z8.c), (Value.int .i64 x.y1), (Value.int .i64 x.B5), (Value.slice x.Z8.a x.Z8.n x.Z8.c)]
abbrev m1 (x : j7) : List Value := [(Value.int .i64 x.E7), (Value.int .i64 x.v8)]
abbrev i4 (x : m2) : List Value := [(Value.int .i64 x.d5), (Value.int .i64 x.fOp), (Value.slice x.g5.a x.g5.n x.g5.c), (Value.slice x.o7.a x.o7.n x.o7.c)]
abbrev a4K (x : f8) : List Value := [(Value.int .i64 x.fnodes), (Value.int .i64 x.fdepth), (Value.int .i64 x.fe), (Value.bool x.fform), (Value.bool x.fnamed), (Value.slice x.fnames.a x.fnames.n x.fnames.c)]
end Go.Proofs.YtaokfhdinhimfaaDoor
