/- Single operations at this program's types, and its structures; printed by lift.py. -/
import Derived.Test.YtaokfhdinhimfaaDoorProg
import Derived.KernelRfl
import Derived.Laws.StructEq
import Derived.Laws.Cover2
import Derived.Test.YtaokfhdinhimfaaDooryAS5
namespace Go.Proofs.YtaokfhdinhimfaaDoor
open Go.RowKit
set_option maxRecDepth 100000
set_option maxHeartbeats 2000000
structure i5 where
  d5 : Int
  y8 : Int
  d8 : ByteArray
  u7 : Sl
structure j6 where
  d8 : ByteArray
  X0 : Int
structure j9 where
  d5 : Int
  d8 : ByteArray
  g5 : Sl
  o3 : Sl
  D8 : Sl
  D9 : Sl
structure m1 where
  a2r : Sl
  a1W : Sl
structure C0 where
  u9 : Sl
  J7 : Int
  A7 : Sl
  A9 : Int
  C2 : Int
  Y6 : Sl
structure j8 where
  G1 : Int
  y8 : Int
structure c8 where
  Q5 : Int
  fTo : Int
  d5 : Int
  a1Y : Int
  Z3 : Int
  fOp : Int
  fA : j8
  fB : j8
structure d2 where
  fc : C0
  fvars : (Option Nat)
  farrays : (Option Nat)
structure m2 where
  d5 : Int
  fOp : Int
  g5 : Sl
  o7 : Sl
structure b8g where
  fdst : Bool
  farr : Bool
  fop : Bool
  fa : Bool
  fb : Bool
structure f0 where
  fl : Sl
structure d4 where
  fname : ByteArray
  fas : Int
structure f5 where
  fnodes : Int
  fdepth : Int
  fe : Int
  fform : Bool
  fnamed : Bool
  fnames : Sl
structure K4 where
  M8 : j6
structure F1 where
  d6 : j9
structure B7 where
  l9 : i5
structure F3 where
  i8 : m2
structure m7 where
  fexprs : Int
  fconds : Int
structure i4 where
  fexprs : Int
  fparts : Int
abbrev i6 (x : d2) (s0 : Sl) : List Value := [(vs x.fc.u9), (vi x.fc.J7), (vs x.fc.A7), (vi x.fc.A9), (vi x.fc.C2), (vs s0), (Value.map x.fvars), (Value.map x.farrays)]
abbrev c6 (x : d2) : d2 := d2.mk (C0.mk x.fc.u9 x.fc.J7 x.fc.A7 x.fc.A9 x.fc.C2 (Sl.mk none 0 0)) x.fvars x.farrays
abbrev P4 (x : f5) (s0 : Sl) : List Value := [(vi x.fnodes), (vi x.fdepth), (vi x.fe), (Value.bool x.fform), (Value.bool x.fnamed), (vs s0)]
abbrev N9 (x : f5) : f5 := f5.mk x.fnodes x.fdepth x.fe x.fform x.fnamed (Sl.mk none 0 0)
inductive c7 where
  | nil
  | B2 (x : K4)
  | y6 (x : F1)
  | v1 (x : B7)
  | B8 (x : F3)
def v2 : c7 → Value
  | .nil => .nilIface
  | .B2 x => .iface 138 (.agg #[(Value.string x.M8.d8), (Value.int .i64 x.M8.X0)])
  | .y6 x => .iface 140 (.agg #[(Value.int .i64 x.d6.d5), (Value.string x.d6.d8), (Value.slice x.d6.g5.a x.d6.g5.n x.d6.g5.c), (Value.slice x.d6.o3.a x.d6.o3.n x.d6.o3.c), (Value.slice x.d6.D8.a x.d6.D8.n x.d6.D8.c), (Value.slice x.d6.D9.a x.d6.D9.n x.d6.D9.c)])
  | .v1 x => .iface 146 (.agg #[(Value.int .i64 x.l9.d5), (Value.int .i64 x.l9.y8), (Value.string x.l9.d8), (Value.slice x.l9.u7.a x.l9.u7.n x.l9.u7.c)])
  | .B8 x => .iface 181 (.agg #[(Value.int .i64 x.i8.d5), (Value.int .i64 x.i8.fOp), (Value.slice x.i8.g5.a x.i8.g5.n x.i8.g5.c), (Value.slice x.i8.o7.a x.i8.o7.n x.i8.o7.c)])
theorem a9e (x : c7) : [v2 x].all (·.oneCell') = true := by cases x <;> rfl
def c7.V5 : c7 → K4
  | .B2 x => x
  | _ => (K4.mk (j6.mk ⟨#[]⟩ 0))
def c7.a1q : c7 → Bool
  | .B2 _ => true
  | _ => false
def c7.m3 : c7 → F1
  | .y6 x => x
  | _ => (F1.mk (j9.mk 0 ⟨#[]⟩ (Sl.mk none 0 0) (Sl.mk none 0 0) (Sl.mk none 0 0) (Sl.mk none 0 0)))
def c7.a1r : c7 → Bool
  | .y6 _ => true
  | _ => false
def c7.v7 : c7 → B7
  | .v1 x => x
  | _ => (B7.mk (i5.mk 0 0 ⟨#[]⟩ (Sl.mk none 0 0)))
def c7.a1s : c7 → Bool
  | .v1 _ => true
  | _ => false
abbrev f6 (x : i5) : List Value := [(Value.int .i64 x.d5), (Value.int .i64 x.y8), (Value.string x.d8), (Value.slice x.u7.a x.u7.n x.u7.c)]
abbrev f3 (x : j6) : List Value := [(Value.string x.d8), (Value.int .i64 x.X0)]
theorem a3C (x : j6) : (f3 x).length = 2 := rfl
theorem a6l (x : j6) : (f3 x).all (·.oneCell') = true := rfl
abbrev j7 (x : j9) : List Value := [(Value.int .i64 x.d5), (Value.string x.d8), (Value.slice x.g5.a x.g5.n x.g5.c), (Value.slice x.o3.a x.o3.n x.o3.c), (Value.slice x.D8.a x.D8.n x.D8.c), (Value.slice x.D9.a x.D9.n x.D9.c)]
theorem a9f (x : j9) : (j7 x).length = 6 := rfl
theorem a9g (x : j9) : (j7 x).all (·.oneCell') = true := rfl
theorem b5z (a0j : Int) (a0k : ByteArray) (a0_2a : Option Addr) (a0_2n a0_2c : Nat) (a0_3a : Option Addr) (a0_3n a0_3c : Nat) (a0_4a : Option Addr) (a0_4n a0_4c : Nat) (a0_5a : Option Addr) (a0_5n a0_5c : Nat) (w : World) : (Instr.buildSlice 37 1 #[(0, (Value.agg #[(Value.int .i64 a0j), (Value.string a0k), (Value.slice a0_2a a0_2n a0_2c), (Value.slice a0_3a a0_3n a0_3c), (Value.slice a0_4a a0_4n a0_4c), (Value.slice a0_5a a0_5n a0_5c)]))]).run Tryd.prog w = .ok (.slice (some ⟨w.heap.size, 0, none⟩) 1 1) (w.alloc (.cells [(Value.int .i64 a0j), (Value.string a0k), (Value.slice a0_2a a0_2n a0_2c), (Value.slice a0_3a a0_3n a0_3c), (Value.slice a0_4a a0_4n a0_4c), (Value.slice a0_5a a0_5n a0_5c)].toArray 39)) := by kernel_rfl
theorem a5z {g o : Nat} : Pu Tryd.prog (xV (Instr.fieldAt 30 (.pointer (some ⟨g, o, none⟩)) 1)) (.pointer (some ⟨g, o + 1, none⟩)) := Pu.ok fun w => by kernel_rfl
theorem a0q {g o : Nat} : Pu Tryd.prog (xV (Instr.fieldAt 30 (.pointer (some ⟨g, o, none⟩)) 5)) (.pointer (some ⟨g, o + 5, none⟩)) := Pu.ok fun w => by kernel_rfl
theorem a8R (a : Option Addr) (n c : Nat) : Pu Tryd.prog (xBuiltin .len #[28] 3 [false] [.slice a n c]) (.int .i64 (n : Int)) := N6 Tryd.underlying28 a n c
theorem a2s {g o : Nat} : Pu Tryd.prog (xV (Instr.fieldAt 30 (.pointer (some ⟨g, o, none⟩)) 3)) (.pointer (some ⟨g, o + 3, none⟩)) := Pu.ok fun w => by kernel_rfl
theorem a9E {a : Option Addr} {g o : Nat} (ha : a = some ⟨g, o, none⟩) (len cap : Nat) (k : IntKind) (i : Int) (h0 : 0 ≤ i) (h1 : i < len) : Pu Tryd.prog (xV (Instr.indexAt 28 (.slice a len cap) (.int k i))) (.pointer (some ⟨g, o + i.toNat * 10, none⟩)) := Q4 Tryd.underlying28 Tryd.sizeOf46 ha len cap k i h0 h1
theorem b1I {g o : Nat} : Pu Tryd.prog (xV (Instr.fieldAt 46 (.pointer (some ⟨g, o, none⟩)) 2)) (.pointer (some ⟨g, o + 2, none⟩)) := Pu.ok fun w => by kernel_rfl
theorem a2t {g o : Nat} : Pu Tryd.prog (xV (Instr.fieldAt 41 (.pointer (some ⟨g, o, none⟩)) 1)) (.pointer (some ⟨g, o + 1, none⟩)) := Pu.ok fun w => by kernel_rfl
theorem b1a (a0 : Int) : Pu Tryd.prog (xV (Instr.build 39 #[(0, (Value.int .i64 a0))])) (.agg #[(Value.int .i64 a0), (Value.string ⟨#[]⟩), (Value.slice none 0 0), (Value.slice none 0 0), (Value.slice none 0 0), (Value.slice none 0 0)]) := Pu.ok fun w => by kernel_rfl
theorem a3M {g o : Nat} : Pu Tryd.prog (xV (Instr.fieldAt 30 (.pointer (some ⟨g, o, none⟩)) 4)) (.pointer (some ⟨g, o + 4, none⟩)) := Pu.ok fun w => by kernel_rfl
theorem a9F {a : Option Addr} {g o : Nat} (ha : a = some ⟨g, o, none⟩) (len cap : Nat) (k : IntKind) (i : Int) (h0 : 0 ≤ i) (h1 : i < len) : Pu Tryd.prog (xV (Instr.indexAt 49 (.slice a len cap) (.int k i))) (.pointer (some ⟨g, o + i.toNat * 1, none⟩)) := Q4 Tryd.underlying49 Tryd.sizeOf3 ha len cap k i h0 h1
theorem a5A {g o : Nat} : Pu Tryd.prog (xV (Instr.fieldAt 46 (.pointer (some ⟨g, o, none⟩)) 0)) (.pointer (some ⟨g, o + 0, none⟩)) := Pu.ok fun w => by kernel_rfl
theorem b1J {g o : Nat} : Pu Tryd.prog (xV (Instr.fieldAt 46 (.pointer (some ⟨g, o, none⟩)) 1)) (.pointer (some ⟨g, o + 1, none⟩)) := Pu.ok fun w => by kernel_rfl
theorem b1b (a1a : Option Addr) (a1n a1c : Nat) : Pu Tryd.prog (xV (Instr.build 41 #[(1, (Value.slice a1a a1n a1c))])) (.agg #[(Value.slice none 0 0), (Value.slice a1a a1n a1c)]) := Pu.ok fun w => by kernel_rfl
theorem a1Q (a0 : Int) : Pu Tryd.prog (xV (Instr.build 44 #[(0, (Value.int .i64 a0))])) (.agg #[(Value.int .i64 a0), (Value.int .i64 0)]) := Pu.ok fun w => by kernel_rfl
theorem a5c (a1 : Int) (a2 : Int) (a3 : Int) (a4 : Int) (a9G : Int) (a9H : Int) (a9I : Int) (a9J : Int) : Pu Tryd.prog (xV (Instr.build 46 #[(1, (Value.int .i64 a1)), (2, (Value.int .i64 a2)), (3, (Value.int .i64 a3)), (4, (Value.int .i64 a4)), (6, (Value.agg #[(Value.int .i64 a9G), (Value.int .i64 a9H)])), (7, (Value.agg #[(Value.int .i64 a9I), (Value.int .i64 a9J)]))])) (.agg #[(Value.int .i64 0), (Value.int .i64 a1), (Value.int .i64 a2), (Value.int .i64 a3), (Value.int .i64 a4), (Value.int .i64 0), (Value.int .i64 a9G), (Value.int .i64 a9H), (Value.int .i64 a9I), (Value.int .i64 a9J)]) := Pu.ok fun w => by kernel_rfl
theorem b2J (d : Nat) (a0 b0 : Int) (a1 b1 : Int) (w : World) : (Op.equalIn (d + 2) 44 (.agg #[(Value.int .i64 a0), (Value.int .i64 a1)]) (.agg #[(Value.int .i64 b0), (Value.int .i64 b1)])).run Tryd.prog w = .ok (decide (a0 = b0 ∧ a1 = b1)) w := by
  have u3 := Tryd.underlying3
  have i3 := Tryd.isAgg3
  have s3 := Tryd.sizeOf3
  have u2 := Tryd.underlying2
  have i2 := Tryd.isAgg2
  have s2 := Tryd.sizeOf2
  have hS : Tryd.prog.underlying 44 = some (.struct (Tryd.prog.fieldsOf 44)) := by kernel_rfl
  rw [run_equalIn_agg w (d + 1) 44 _ _ hS (by kernel_rfl)]
  simp only [Program.fieldsOf, Tryd.underlying44]
  go_simp
  try simp only [a5u]
  by_cases h0 : a0 = b0
  · by_cases h1 : a1 = b1
    · simp [h0, h1]
    · simp [h0, h1]
  · simp [h0]
theorem b6m (d : Nat) (a0 b0 : Int) (a1 b1 : Int) (a2 b2 : Int) (a3 b3 : Int) (a4 b4 : Int) (a5 b5 : Int) (a6 b6 : Int) (a7 b7 : Int) (a8 b8 : Int) (a9 b9 : Int) (w : World) : (Op.equalIn (d + 3) 46 (.agg #[(Value.int .i64 a0), (Value.int .i64 a1), (Value.int .i64 a2), (Value.int .i64 a3), (Value.int .i64 a4), (Value.int .i64 a5), (Value.int .i64 a6), (Value.int .i64 a7), (Value.int .i64 a8), (Value.int .i64 a9)]) (.agg #[(Value.int .i64 b0), (Value.int .i64 b1), (Value.int .i64 b2), (Value.int .i64 b3), (Value.int .i64 b4), (Value.int .i64 b5), (Value.int .i64 b6), (Value.int .i64 b7), (Value.int .i64 b8), (Value.int .i64 b9)])).run Tryd.prog w = .ok (decide (a0 = b0 ∧ a1 = b1 ∧ a2 = b2 ∧ a3 = b3 ∧ a4 = b4 ∧ a5 = b5 ∧ a6 = b6 ∧ a7 = b7 ∧ a8 = b8 ∧ a9 = b9)) w := by
  have u3 := Tryd.underlying3
  have i3 := Tryd.isAgg3
  have s3 := Tryd.sizeOf3
  have u2 := Tryd.underlying2
  have i2 := Tryd.isAgg2
  have s2 := Tryd.sizeOf2
  have e44 := b2J d
  have i44 := Tryd.isAgg44
  have s44 := Tryd.sizeOf44
  have e44 := b2J d
  have i44 := Tryd.isAgg44
  have s44 := Tryd.sizeOf44
  have hS : Tryd.prog.underlying 46 = some (.struct (Tryd.prog.fieldsOf 46)) := by kernel_rfl
  rw [run_equalIn_agg w (d + 2) 46 _ _ hS (by kernel_rfl)]
  simp only [Program.fieldsOf, Tryd.underlying46]
  go_simp
  try simp only [a5u]
  by_cases h0 : a0 = b0
  · by_cases h1 : a1 = b1
    · by_cases h2 : a2 = b2
      · by_cases h3 : a3 = b3
        · by_cases h4 : a4 = b4
          · by_cases h5 : a5 = b5
            · by_cases h6 : a6 = b6
              · by_cases h7 : a7 = b7
                · by_cases h8 : a8 = b8
                  · by_cases h9 : a9 = b9
                    · simp [h0, h1, h2, h3, h4, h5, h6, h7, h8, h9]
                    · simp [h0, h1, h2, h3, h4, h5, h6, h7, h8, h9]
                  · simp [h0, h1, h2, h3, h4, h5, h6, h7, h8]
                · simp [h0, h1, h2, h3, h4, h5, h6, h7]
              · simp [h0, h1, h2, h3, h4, h5, h6]
            · simp [h0, h1, h2, h3, h4, h5]
          · simp [h0, h1, h2, h3, h4]
        · simp [h0, h1, h2, h3]
      · simp [h0, h1, h2]
    · simp [h0, h1]
  · simp [h0]
theorem b4c (x y : Operand) (a0 b0 : Int) (a1 b1 : Int) (a2 b2 : Int) (a3 b3 : Int) (a4 b4 : Int) (a5 b5 : Int) (a6 b6 : Int) (a7 b7 : Int) (a8 b8 : Int) (a9 b9 : Int) : Pu Tryd.prog (xBin .eql 46 x y (.agg #[(Value.int .i64 a0), (Value.int .i64 a1), (Value.int .i64 a2), (Value.int .i64 a3), (Value.int .i64 a4), (Value.int .i64 a5), (Value.int .i64 a6), (Value.int .i64 a7), (Value.int .i64 a8), (Value.int .i64 a9)]) (.agg #[(Value.int .i64 b0), (Value.int .i64 b1), (Value.int .i64 b2), (Value.int .i64 b3), (Value.int .i64 b4), (Value.int .i64 b5), (Value.int .i64 b6), (Value.int .i64 b7), (Value.int .i64 b8), (Value.int .i64 b9)])) (.bool (decide (a0 = b0 ∧ a1 = b1 ∧ a2 = b2 ∧ a3 = b3 ∧ a4 = b4 ∧ a5 = b5 ∧ a6 = b6 ∧ a7 = b7 ∧ a8 = b8 ∧ a9 = b9))) := by
  refine Pu.ok (s := do eqGuard .eql 46 x y (.agg #[(Value.int .i64 a0), (Value.int .i64 a1), (Value.int .i64 a2), (Value.int .i64 a3), (Value.int .i64 a4), (Value.int .i64 a5), (Value.int .i64 a6), (Value.int .i64 a7), (Value.int .i64 a8), (Value.int .i64 a9)]) (.agg #[(Value.int .i64 b0), (Value.int .i64 b1), (Value.int .i64 b2), (Value.int .i64 b3), (Value.int .i64 b4), (Value.int .i64 b5), (Value.int .i64 b6), (Value.int .i64 b7), (Value.int .i64 b8), (Value.int .i64 b9)]); binOp .eql 46 (.agg #[(Value.int .i64 a0), (Value.int .i64 a1), (Value.int .i64 a2), (Value.int .i64 a3), (Value.int .i64 a4), (Value.int .i64 a5), (Value.int .i64 a6), (Value.int .i64 a7), (Value.int .i64 a8), (Value.int .i64 a9)]) (.agg #[(Value.int .i64 b0), (Value.int .i64 b1), (Value.int .i64 b2), (Value.int .i64 b3), (Value.int .i64 b4), (Value.int .i64 b5), (Value.int .i64 b6), (Value.int .i64 b7), (Value.int .i64 b8), (Value.int .i64 b9)])) fun w => ?_
  rw [Sem.run_bind, run_eqGuard_agg w _ _ _ _ _ _ (by kernel_rfl), Result.andThen_ok, run_eql_struct, show (10000 : Nat) = 9997 + 3 from rfl, b6m]
  rfl
theorem a6B  : Pu Tryd.prog (xV (Instr.build 30 #[])) (.agg #[(Value.slice none 0 0), (Value.int .i64 0), (Value.slice none 0 0), (Value.int .i64 0), (Value.int .i64 0), (Value.slice none 0 0)]) := Pu.ok fun w => by kernel_rfl
theorem a7R (a0a : Option Addr) (a0n a0c : Nat) (a2a : Option Addr) (a2n a2c : Nat) (a3 : Int) : Pu Tryd.prog (xV (Instr.build 30 #[(0, (Value.slice a0a a0n a0c)), (2, (Value.slice a2a a2n a2c)), (3, (Value.int .i64 a3))])) (.agg #[(Value.slice a0a a0n a0c), (Value.int .i64 0), (Value.slice a2a a2n a2c), (Value.int .i64 a3), (Value.int .i64 0), (Value.slice none 0 0)]) := Pu.ok fun w => by kernel_rfl
theorem R0 (a : Option Addr) (n c : Nat) : Pu Tryd.prog (xBuiltin .len #[37] 3 [false] [.slice a n c]) (.int .i64 (n : Int)) := N6 Tryd.underlying37 a n c
theorem a2M {a : Option Addr} {g o : Nat} (ha : a = some ⟨g, o, none⟩) (len cap : Nat) (k : IntKind) (i : Int) (h0 : 0 ≤ i) (h1 : i < len) : Pu Tryd.prog (xV (Instr.indexAt 37 (.slice a len cap) (.int k i))) (.pointer (some ⟨g, o + i.toNat * 6, none⟩)) := Q4 Tryd.underlying37 Tryd.sizeOf39 ha len cap k i h0 h1
theorem a1t {g o : Nat} : Pu Tryd.prog (xV (Instr.fieldAt 39 (.pointer (some ⟨g, o, none⟩)) 0)) (.pointer (some ⟨g, o + 0, none⟩)) := Pu.ok fun w => by kernel_rfl
theorem Y7 {g o : Nat} : Pu Tryd.prog (xV (Instr.fieldAt 39 (.pointer (some ⟨g, o, none⟩)) 4)) (.pointer (some ⟨g, o + 4, none⟩)) := Pu.ok fun w => by kernel_rfl
theorem a0r {g o : Nat} : Pu Tryd.prog (xV (Instr.fieldAt 39 (.pointer (some ⟨g, o, none⟩)) 5)) (.pointer (some ⟨g, o + 5, none⟩)) := Pu.ok fun w => by kernel_rfl
abbrev a1R (x : Int) : List Value := [(Value.int .i64 x)]
theorem a7B (x : Int) : (a1R x).length = 1 := rfl
theorem a7C (x : Int) : (a1R x).all (·.oneCell') = true := rfl
theorem a8s (a0 : Int) (w : World) : (Instr.buildSlice 49 1 #[(0, (Value.int .i64 a0))]).run Tryd.prog w = .ok (.slice (some ⟨w.heap.size, 0, none⟩) 1 1) (w.alloc (.cells [(Value.int .i64 a0)].toArray 3)) := by kernel_rfl
theorem b8h : Tryd.prog.info? 3 = some ((Tryd.prog.info? 3).getD default) := by kernel_rfl
theorem b2K {E : Pan} {w0 w : World} {ps : Nat → Prop} {H0 H : Hp} {Fs : List Frag} {K : Value → World → Prop} {s : Sl} {xs : List Int} {F : Frag} {t2 : Sl} {ys : List Int} {ks : List Bool} {ty : TypeId} (I : Inv w0 ps H0 H (F :: Fs) w) (hr : RowL 3 1 a1R s xs F) (hs : SrcO w a1R t2 ys) (hb : (xs.length + ys.length) * 9 ≤ 140737488355328) (h : ∀ (s' : Sl) (F' : Frag) (w' : World), RowL 3 1 a1R s' (xs ++ ys) F' → Inv w0 ps H0 H (F' :: Fs) w' → (∀ k, k < w.heap.size → (∀ p ∈ F, p.1 ≠ k) → w'.heap[k]? = w.heap[k]?) → K (.slice s'.a s'.n s'.c) w') : opK Tryd.prog E (xBuiltin .append #[49, 49] ty ks [.slice s.a s.n s.c, .slice t2.a t2.n t2.c]) w K :=
  a6S (bytes := 8) Tryd.underlying49 b8h (z := (Value.int .i64 0)) (by kernel_rfl) (by kernel_rfl) (by kernel_rfl) (by kernel_rfl) I hr hs hb h
theorem a4G (a : Option Addr) (n c : Nat) : Pu Tryd.prog (xBuiltin .len #[27] 3 [false] [.slice a n c]) (.int .i64 (n : Int)) := N6 Tryd.underlying27 a n c
theorem a1Z {a : Option Addr} {g o : Nat} (ha : a = some ⟨g, o, none⟩) (len cap : Nat) (k : IntKind) (i : Int) (h0 : 0 ≤ i) (h1 : i < len) : Pu Tryd.prog (xV (Instr.indexAt 27 (.slice a len cap) (.int k i))) (.pointer (some ⟨g, o + i.toNat * 2, none⟩)) := Q4 Tryd.underlying27 Tryd.sizeOf35 ha len cap k i h0 h1
theorem Y8 {g o : Nat} : Pu Tryd.prog (xV (Instr.fieldAt 35 (.pointer (some ⟨g, o, none⟩)) 0)) (.pointer (some ⟨g, o + 0, none⟩)) := Pu.ok fun w => by kernel_rfl
abbrev s6 (x : ByteArray) : List Value := [(Value.string x)]
theorem a3e (x : ByteArray) : (s6 x).length = 1 := rfl
theorem a3f (x : ByteArray) : (s6 x).all (·.oneCell') = true := rfl
theorem b1q (a0 : ByteArray) (w : World) : (Instr.buildSlice 26 1 #[(0, (Value.string a0))]).run Tryd.prog w = .ok (.slice (some ⟨w.heap.size, 0, none⟩) 1 1) (w.alloc (.cells [(Value.string a0)].toArray 9)) := by kernel_rfl
theorem b8i : Tryd.prog.info? 9 = some ((Tryd.prog.info? 9).getD default) := by kernel_rfl
theorem b2L {E : Pan} {w0 w : World} {ps : Nat → Prop} {H0 H : Hp} {Fs : List Frag} {K : Value → World → Prop} {s : Sl} {xs : List ByteArray} {F : Frag} {t2 : Sl} {ys : List ByteArray} {ks : List Bool} {ty : TypeId} (I : Inv w0 ps H0 H (F :: Fs) w) (hr : RowL 9 1 s6 s xs F) (hs : SrcO w s6 t2 ys) (hb : (xs.length + ys.length) * 17 ≤ 140737488355328) (h : ∀ (s' : Sl) (F' : Frag) (w' : World), RowL 9 1 s6 s' (xs ++ ys) F' → Inv w0 ps H0 H (F' :: Fs) w' → (∀ k, k < w.heap.size → (∀ p ∈ F, p.1 ≠ k) → w'.heap[k]? = w.heap[k]?) → K (.slice s'.a s'.n s'.c) w') : opK Tryd.prog E (xBuiltin .append #[26, 26] ty ks [.slice s.a s.n s.c, .slice t2.a t2.n t2.c]) w K :=
  a6S (bytes := 16) Tryd.underlying26 b8i (z := (Value.string ⟨#[]⟩)) (by kernel_rfl) (by kernel_rfl) (by kernel_rfl) (by kernel_rfl) I hr hs hb h
abbrev g8 (x : c8) : List Value := [(Value.int .i64 x.Q5), (Value.int .i64 x.fTo), (Value.int .i64 x.d5), (Value.int .i64 x.a1Y), (Value.int .i64 x.Z3), (Value.int .i64 x.fOp), (Value.int .i64 x.fA.G1), (Value.int .i64 x.fA.y8), (Value.int .i64 x.fB.G1), (Value.int .i64 x.fB.y8)]
theorem a3D (x : c8) : (g8 x).length = 10 := rfl
theorem a3E (x : c8) : (g8 x).all (·.oneCell') = true := rfl
theorem E0 {g o : Nat} : Pu Tryd.prog (xV (Instr.fieldAt 59 (.pointer (some ⟨g, o, none⟩)) 0)) (.pointer (some ⟨g, o + 0, none⟩)) := Pu.ok fun w => by kernel_rfl
theorem a5B {g o : Nat} : Pu Tryd.prog (xV (Instr.fieldAt 59 (.pointer (some ⟨g, o, none⟩)) 1)) (.pointer (some ⟨g, o + 6, none⟩)) := Pu.ok fun w => by kernel_rfl
theorem Y9 {g o : Nat} : Pu Tryd.prog (xV (Instr.fieldAt 39 (.pointer (some ⟨g, o, none⟩)) 1)) (.pointer (some ⟨g, o + 1, none⟩)) := Pu.ok fun w => by kernel_rfl
theorem a2u {g o : Nat} : Pu Tryd.prog (xV (Instr.fieldAt 39 (.pointer (some ⟨g, o, none⟩)) 2)) (.pointer (some ⟨g, o + 2, none⟩)) := Pu.ok fun w => by kernel_rfl
theorem Z4 {a : Option Addr} {g o : Nat} (ha : a = some ⟨g, o, none⟩) (len cap : Nat) (k : IntKind) (i : Int) (h0 : 0 ≤ i) (h1 : i < len) : Pu Tryd.prog (xV (Instr.indexAt 23 (.slice a len cap) (.int k i))) (.pointer (some ⟨g, o + i.toNat * 4, none⟩)) := Q4 Tryd.underlying23 Tryd.sizeOf25 ha len cap k i h0 h1
theorem O0 {g o : Nat} : Pu Tryd.prog (xV (Instr.fieldAt 25 (.pointer (some ⟨g, o, none⟩)) 0)) (.pointer (some ⟨g, o + 0, none⟩)) := Pu.ok fun w => by kernel_rfl
theorem a3N {g o : Nat} : Pu Tryd.prog (xV (Instr.fieldAt 25 (.pointer (some ⟨g, o, none⟩)) 1)) (.pointer (some ⟨g, o + 1, none⟩)) := Pu.ok fun w => by kernel_rfl
theorem a6m (a0 : Int) (a1 : Int) : Pu Tryd.prog (xV (Instr.build 44 #[(0, (Value.int .i64 a0)), (1, (Value.int .i64 a1))])) (.agg #[(Value.int .i64 a0), (Value.int .i64 a1)]) := Pu.ok fun w => by kernel_rfl
theorem Z0 {g o : Nat} : Pu Tryd.prog (xV (Instr.fieldAt 25 (.pointer (some ⟨g, o, none⟩)) 3)) (.pointer (some ⟨g, o + 3, none⟩)) := Pu.ok fun w => by kernel_rfl
theorem a1u {g o : Nat} : Pu Tryd.prog (xV (Instr.fieldAt 25 (.pointer (some ⟨g, o, none⟩)) 2)) (.pointer (some ⟨g, o + 2, none⟩)) := Pu.ok fun w => by kernel_rfl
theorem a7S {g o : Nat} : Pu Tryd.prog (xV (Instr.fieldAt 46 (.pointer (some ⟨g, o, none⟩)) 3)) (.pointer (some ⟨g, o + 3, none⟩)) := Pu.ok fun w => by kernel_rfl
theorem a0o (a : Option Addr) (n c : Nat) : Pu Tryd.prog (xBuiltin .len #[23] 3 [false] [.slice a n c]) (.int .i64 (n : Int)) := N6 Tryd.underlying23 a n c
theorem a7T {g o : Nat} : Pu Tryd.prog (xV (Instr.fieldAt 30 (.pointer (some ⟨g, o, none⟩)) 0)) (.pointer (some ⟨g, o + 0, none⟩)) := Pu.ok fun w => by kernel_rfl
theorem a4H (a : Option Addr) (n c : Nat) : Pu Tryd.prog (xBuiltin .len #[26] 3 [false] [.slice a n c]) (.int .i64 (n : Int)) := N6 Tryd.underlying26 a n c
theorem a7U {g o : Nat} : Pu Tryd.prog (xV (Instr.fieldAt 44 (.pointer (some ⟨g, o, none⟩)) 0)) (.pointer (some ⟨g, o + 0, none⟩)) := Pu.ok fun w => by kernel_rfl
theorem a2v {g o : Nat} : Pu Tryd.prog (xV (Instr.fieldAt 46 (.pointer (some ⟨g, o, none⟩)) 6)) (.pointer (some ⟨g, o + 6, none⟩)) := Pu.ok fun w => by kernel_rfl
theorem a5C {g o : Nat} : Pu Tryd.prog (xV (Instr.fieldAt 59 (.pointer (some ⟨g, o, none⟩)) 2)) (.pointer (some ⟨g, o + 7, none⟩)) := Pu.ok fun w => by kernel_rfl
theorem a7V {g o : Nat} : Pu Tryd.prog (xV (Instr.fieldAt 46 (.pointer (some ⟨g, o, none⟩)) 4)) (.pointer (some ⟨g, o + 4, none⟩)) := Pu.ok fun w => by kernel_rfl
theorem b5A (a0j : Int) (a0k : Int) (a9K : Int) (b6n : Int) (b6o : Int) (b6p : Int) (b2M : Int) (b2N : Int) (b2O : Int) (b2P : Int) (w : World) : (Instr.buildSlice 28 1 #[(0, (Value.agg #[(Value.int .i64 a0j), (Value.int .i64 a0k), (Value.int .i64 a9K), (Value.int .i64 b6n), (Value.int .i64 b6o), (Value.int .i64 b6p), (Value.int .i64 b2M), (Value.int .i64 b2N), (Value.int .i64 b2O), (Value.int .i64 b2P)]))]).run Tryd.prog w = .ok (.slice (some ⟨w.heap.size, 0, none⟩) 1 1) (w.alloc (.cells [(Value.int .i64 a0j), (Value.int .i64 a0k), (Value.int .i64 a9K), (Value.int .i64 b6n), (Value.int .i64 b6o), (Value.int .i64 b6p), (Value.int .i64 b2M), (Value.int .i64 b2N), (Value.int .i64 b2O), (Value.int .i64 b2P)].toArray 46)) := by kernel_rfl
theorem b6q : Tryd.prog.info? 46 = some ((Tryd.prog.info? 46).getD default) := by kernel_rfl
theorem b6r {E : Pan} {w0 w : World} {ps : Nat → Prop} {H0 H : Hp} {Fs : List Frag} {K : Value → World → Prop} {s : Sl} {xs : List c8} {F : Frag} {t2 : Sl} {ys : List c8} {ks : List Bool} {ty : TypeId} (I : Inv w0 ps H0 H (F :: Fs) w) (hr : RowL 46 10 g8 s xs F) (hs : SrcO w g8 t2 ys) (hb : (xs.length + ys.length) * 81 ≤ 140737488355328) (h : ∀ (s' : Sl) (F' : Frag) (w' : World), RowL 46 10 g8 s' (xs ++ ys) F' → Inv w0 ps H0 H (F' :: Fs) w' → (∀ k, k < w.heap.size → (∀ p ∈ F, p.1 ≠ k) → w'.heap[k]? = w.heap[k]?) → K (.slice s'.a s'.n s'.c) w') : opK Tryd.prog E (xBuiltin .append #[28, 28] ty ks [.slice s.a s.n s.c, .slice t2.a t2.n t2.c]) w K :=
  a6S (bytes := 80) Tryd.underlying28 b6q (z := (Value.agg #[(Value.int .i64 0), (Value.int .i64 0), (Value.int .i64 0), (Value.int .i64 0), (Value.int .i64 0), (Value.int .i64 0), (Value.int .i64 0), (Value.int .i64 0), (Value.int .i64 0), (Value.int .i64 0)])) (by kernel_rfl) (by kernel_rfl) (by kernel_rfl) (by kernel_rfl) I hr hs hb h
theorem a5D {g o : Nat} : Pu Tryd.prog (xV (Instr.fieldAt 46 (.pointer (some ⟨g, o, none⟩)) 7)) (.pointer (some ⟨g, o + 8, none⟩)) := Pu.ok fun w => by kernel_rfl
theorem a0s {g o : Nat} : Pu Tryd.prog (xV (Instr.fieldAt 39 (.pointer (some ⟨g, o, none⟩)) 3)) (.pointer (some ⟨g, o + 3, none⟩)) := Pu.ok fun w => by kernel_rfl
theorem S5 {a : Option Addr} {g o : Nat} (ha : a = some ⟨g, o, none⟩) (len cap : Nat) (k : IntKind) (i : Int) (h0 : 0 ≤ i) (h1 : i < len) : Pu Tryd.prog (xV (Instr.indexAt 36 (.slice a len cap) (.int k i))) (.pointer (some ⟨g, o + i.toNat * 4, none⟩)) := Q4 Tryd.underlying36 Tryd.sizeOf89 ha len cap k i h0 h1
theorem a5E {g o : Nat} : Pu Tryd.prog (xV (Instr.fieldAt 89 (.pointer (some ⟨g, o, none⟩)) 0)) (.pointer (some ⟨g, o + 0, none⟩)) := Pu.ok fun w => by kernel_rfl
theorem Z1 {g o : Nat} : Pu Tryd.prog (xV (Instr.fieldAt 89 (.pointer (some ⟨g, o, none⟩)) 3)) (.pointer (some ⟨g, o + 3, none⟩)) := Pu.ok fun w => by kernel_rfl
theorem a3O {g o : Nat} : Pu Tryd.prog (xV (Instr.fieldAt 89 (.pointer (some ⟨g, o, none⟩)) 2)) (.pointer (some ⟨g, o + 2, none⟩)) := Pu.ok fun w => by kernel_rfl
theorem a2w {g o : Nat} : Pu Tryd.prog (xV (Instr.fieldAt 89 (.pointer (some ⟨g, o, none⟩)) 1)) (.pointer (some ⟨g, o + 1, none⟩)) := Pu.ok fun w => by kernel_rfl
theorem a7W {g o : Nat} : Pu Tryd.prog (xV (Instr.fieldAt 46 (.pointer (some ⟨g, o, none⟩)) 5)) (.pointer (some ⟨g, o + 5, none⟩)) := Pu.ok fun w => by kernel_rfl
theorem a3P {g o : Nat} : Pu Tryd.prog (xV (Instr.fieldAt 35 (.pointer (some ⟨g, o, none⟩)) 1)) (.pointer (some ⟨g, o + 1, none⟩)) := Pu.ok fun w => by kernel_rfl
theorem a5F {g o : Nat} : Pu Tryd.prog (xV (Instr.fieldAt 41 (.pointer (some ⟨g, o, none⟩)) 0)) (.pointer (some ⟨g, o + 0, none⟩)) := Pu.ok fun w => by kernel_rfl
theorem b1K  : Pu Tryd.prog (xV (Instr.build 103 #[])) (.agg #[(Value.slice none 0 0)]) := Pu.ok fun w => by kernel_rfl
abbrev o4 (x : d4) : List Value := [(Value.string x.fname), (Value.int .i64 x.fas)]
theorem a0L (x : d4) : (o4 x).length = 2 := rfl
theorem a0M (x : d4) : (o4 x).all (·.oneCell') = true := rfl
theorem Q6 {g o : Nat} : Pu Tryd.prog (xV (Instr.fieldAt 103 (.pointer (some ⟨g, o, none⟩)) 0)) (.pointer (some ⟨g, o + 0, none⟩)) := Pu.ok fun w => by kernel_rfl
theorem a1v (a0 : ByteArray) (a1 : Int) : Pu Tryd.prog (xV (Instr.build 106 #[(0, (Value.string a0)), (1, (Value.int .i64 a1))])) (.agg #[(Value.string a0), (Value.int .i64 a1)]) := Pu.ok fun w => by kernel_rfl
theorem a5G (a0j : ByteArray) (a0k : Int) (w : World) : (Instr.buildSlice 101 1 #[(0, (Value.agg #[(Value.string a0j), (Value.int .i64 a0k)]))]).run Tryd.prog w = .ok (.slice (some ⟨w.heap.size, 0, none⟩) 1 1) (w.alloc (.cells [(Value.string a0j), (Value.int .i64 a0k)].toArray 106)) := by kernel_rfl
theorem b5B : Tryd.prog.info? 106 = some ((Tryd.prog.info? 106).getD default) := by kernel_rfl
theorem a6W {E : Pan} {w0 w : World} {ps : Nat → Prop} {H0 H : Hp} {Fs : List Frag} {K : Value → World → Prop} {s : Sl} {xs : List d4} {F : Frag} {t2 : Sl} {ys : List d4} {ks : List Bool} {ty : TypeId} (I : Inv w0 ps H0 H (F :: Fs) w) (hr : RowL 106 2 o4 s xs F) (hs : SrcO w o4 t2 ys) (hb : (xs.length + ys.length) * 25 ≤ 140737488355328) (h : ∀ (s' : Sl) (F' : Frag) (w' : World), RowL 106 2 o4 s' (xs ++ ys) F' → Inv w0 ps H0 H (F' :: Fs) w' → (∀ k, k < w.heap.size → (∀ p ∈ F, p.1 ≠ k) → w'.heap[k]? = w.heap[k]?) → K (.slice s'.a s'.n s'.c) w') : opK Tryd.prog E (xBuiltin .append #[101, 101] ty ks [.slice s.a s.n s.c, .slice t2.a t2.n t2.c]) w K :=
  a6S (bytes := 24) Tryd.underlying101 b5B (z := (Value.agg #[(Value.string ⟨#[]⟩), (Value.int .i64 0)])) (by kernel_rfl) (by kernel_rfl) (by kernel_rfl) (by kernel_rfl) I hr hs hb h
theorem a3j (a : Option Addr) (n c : Nat) : Pu Tryd.prog (xBuiltin .len #[36] 3 [false] [.slice a n c]) (.int .i64 (n : Int)) := N6 Tryd.underlying36 a n c
theorem b2Q {a : Option Addr} {g o : Nat} (ha : a = some ⟨g, o, none⟩) (len cap : Nat) (k : IntKind) (i : Int) (h0 : 0 ≤ i) (h1 : i < len) : Pu Tryd.prog (xV (Instr.indexAt 101 (.slice a len cap) (.int k i))) (.pointer (some ⟨g, o + i.toNat * 2, none⟩)) := Q4 Tryd.underlying101 Tryd.sizeOf106 ha len cap k i h0 h1
theorem a4O {g o : Nat} : Pu Tryd.prog (xV (Instr.fieldAt 106 (.pointer (some ⟨g, o, none⟩)) 0)) (.pointer (some ⟨g, o + 0, none⟩)) := Pu.ok fun w => by kernel_rfl
theorem b1c {g o : Nat} : Pu Tryd.prog (xV (Instr.fieldAt 106 (.pointer (some ⟨g, o, none⟩)) 1)) (.pointer (some ⟨g, o + 1, none⟩)) := Pu.ok fun w => by kernel_rfl
theorem b1d (x y : Operand) (s : Sl) : Pu Tryd.prog (xBin .eql 27 x y (vs s) (.slice none 0 0)) (.bool s.a.isNone) := b2H _ _ _ s Tryd.underlying27
theorem b5C  (w : World) : (Instr.buildSlice 27 0 #[]).run Tryd.prog w = .ok (.slice (some ⟨w.heap.size, 0, none⟩) 0 0) (w.alloc (.cells [].toArray 35)) := by kernel_rfl
theorem b6s : Tryd.prog.info? 35 = some ((Tryd.prog.info? 35).getD default) := by kernel_rfl
theorem b6t {E : Pan} {w0 w : World} {ps : Nat → Prop} {H0 H : Hp} {Fs : List Frag} {K : Value → World → Prop} {s : Sl} {xs : List j6} {F : Frag} {t2 : Sl} {ys : List j6} {ks : List Bool} {ty : TypeId} (I : Inv w0 ps H0 H (F :: Fs) w) (hr : RowL 35 2 f3 s xs F) (hs : SrcO w f3 t2 ys) (hb : (xs.length + ys.length) * 25 ≤ 140737488355328) (h : ∀ (s' : Sl) (F' : Frag) (w' : World), RowL 35 2 f3 s' (xs ++ ys) F' → Inv w0 ps H0 H (F' :: Fs) w' → (∀ k, k < w.heap.size → (∀ p ∈ F, p.1 ≠ k) → w'.heap[k]? = w.heap[k]?) → K (.slice s'.a s'.n s'.c) w') : opK Tryd.prog E (xBuiltin .append #[27, 27] ty ks [.slice s.a s.n s.c, .slice t2.a t2.n t2.c]) w K :=
  a6S (bytes := 24) Tryd.underlying27 b6s (z := (Value.agg #[(Value.string ⟨#[]⟩), (Value.int .i64 0)])) (by kernel_rfl) (by kernel_rfl) (by kernel_rfl) (by kernel_rfl) I hr hs hb h
theorem a4B (a0 : Int) (a1 : Int) (a2 : Int) (a3 : Int) (a4 : Int) (a9G : Int) (a9H : Int) (a9I : Int) (a9J : Int) : Pu Tryd.prog (xV (Instr.build 46 #[(0, (Value.int .i64 a0)), (1, (Value.int .i64 a1)), (2, (Value.int .i64 a2)), (3, (Value.int .i64 a3)), (4, (Value.int .i64 a4)), (6, (Value.agg #[(Value.int .i64 a9G), (Value.int .i64 a9H)])), (7, (Value.agg #[(Value.int .i64 a9I), (Value.int .i64 a9J)]))])) (.agg #[(Value.int .i64 a0), (Value.int .i64 a1), (Value.int .i64 a2), (Value.int .i64 a3), (Value.int .i64 a4), (Value.int .i64 0), (Value.int .i64 a9G), (Value.int .i64 a9H), (Value.int .i64 a9I), (Value.int .i64 a9J)]) := Pu.ok fun w => by kernel_rfl
theorem a4k (a0 a1 a2 a3 a4 a5 a6 : Int) : Pu Tryd.prog (xV (Instr.build 114 #[(0, .int .i64 a0), (1, .int .i64 a1), (2, .int .i64 a2), (3, .int .i64 a3), (4, .int .i64 a4), (5, .int .i64 a5), (6, .int .i64 a6)])) (.agg #[.int .i64 a0, .int .i64 a1, .int .i64 a2, .int .i64 a3, .int .i64 a4, .int .i64 a5, .int .i64 a6]) := Pu.ok fun w => by kernel_rfl
theorem b1L (a0 a1 a2 a3 a4 a5 a6 : Int) (k : IntKind) (i : Int) (h0 : 0 ≤ i) (h1 : i < 7) : Pu Tryd.prog (xV (Instr.index 114 (.agg #[.int .i64 a0, .int .i64 a1, .int .i64 a2, .int .i64 a3, .int .i64 a4, .int .i64 a5, .int .i64 a6]) (.int k i))) (.int .i64 (([a0, a1, a2, a3, a4, a5, a6] : List Int).getD i.toNat 0)) := by
  obtain rfl | rfl | rfl | rfl | rfl | rfl | rfl := (by omega : i = 0 ∨ i = 1 ∨ i = 2 ∨ i = 3 ∨ i = 4 ∨ i = 5 ∨ i = 6)
  · exact Pu.ok fun w => by kernel_rfl
  · exact Pu.ok fun w => by kernel_rfl
  · exact Pu.ok fun w => by kernel_rfl
  · exact Pu.ok fun w => by kernel_rfl
  · exact Pu.ok fun w => by kernel_rfl
  · exact Pu.ok fun w => by kernel_rfl
  · exact Pu.ok fun w => by kernel_rfl
theorem a1S {g o : Nat} : Pu Tryd.prog (xV (Instr.fieldAt 116 (.pointer (some ⟨g, o, none⟩)) 2)) (.pointer (some ⟨g, o + 2, none⟩)) := Pu.ok fun w => by kernel_rfl
theorem a9L (a0a : Option Addr) (a0n a0c : Nat) (a1a : Option Addr) (a1n a1c : Nat) (w : World) : (Instr.buildSlice 135 2 #[(0, (Value.slice a0a a0n a0c)), (1, (Value.slice a1a a1n a1c))]).run Tryd.prog w = .ok (.slice (some ⟨w.heap.size, 0, none⟩) 2 2) (w.alloc (.cells [(Value.slice a0a a0n a0c), (Value.slice a1a a1n a1c)].toArray 123)) := by kernel_rfl
theorem a3k (a5 a6 a7 a8 a9 a10 a3 a4 : Int) : Pu Tryd.prog (xV (Instr.build 131 #[(5, .int .i64 a5), (6, .int .i64 a6), (7, .int .i64 a7), (8, .int .i64 a8), (9, .int .i64 a9), (10, .int .i64 a10), (3, .int .i64 a3), (4, .int .i64 a4)])) (.agg #[.int .i64 0, .int .i64 0, .int .i64 0, .int .i64 a3, .int .i64 a4, .int .i64 a5, .int .i64 a6, .int .i64 a7, .int .i64 a8, .int .i64 a9, .int .i64 a10]) := Pu.ok fun w => by kernel_rfl
theorem b1M (a0 a1 a2 a3 a4 a5 a6 a7 a8 a9 a10 : Int) (k : IntKind) (i : Int) (h0 : 0 ≤ i) (h1 : i < 11) : Pu Tryd.prog (xV (Instr.index 131 (.agg #[.int .i64 a0, .int .i64 a1, .int .i64 a2, .int .i64 a3, .int .i64 a4, .int .i64 a5, .int .i64 a6, .int .i64 a7, .int .i64 a8, .int .i64 a9, .int .i64 a10]) (.int k i))) (.int .i64 (([a0, a1, a2, a3, a4, a5, a6, a7, a8, a9, a10] : List Int).getD i.toNat 0)) := by
  obtain rfl | rfl | rfl | rfl | rfl | rfl | rfl | rfl | rfl | rfl | rfl := (by omega : i = 0 ∨ i = 1 ∨ i = 2 ∨ i = 3 ∨ i = 4 ∨ i = 5 ∨ i = 6 ∨ i = 7 ∨ i = 8 ∨ i = 9 ∨ i = 10)
  · exact Pu.ok fun w => by kernel_rfl
  · exact Pu.ok fun w => by kernel_rfl
  · exact Pu.ok fun w => by kernel_rfl
  · exact Pu.ok fun w => by kernel_rfl
  · exact Pu.ok fun w => by kernel_rfl
  · exact Pu.ok fun w => by kernel_rfl
  · exact Pu.ok fun w => by kernel_rfl
  · exact Pu.ok fun w => by kernel_rfl
  · exact Pu.ok fun w => by kernel_rfl
  · exact Pu.ok fun w => by kernel_rfl
  · exact Pu.ok fun w => by kernel_rfl
theorem b1N  : Pu Tryd.prog (xV (Instr.build 116 #[])) (.agg #[(Value.int .i64 0), (Value.int .i64 0), (Value.int .i64 0), (Value.bool false), (Value.bool false), (Value.slice none 0 0)]) := Pu.ok fun w => by kernel_rfl
theorem a3Q (a : Option Addr) (n c : Nat) : Pu Tryd.prog (xBuiltin .len #[123] 3 [false] [.slice a n c]) (.int .i64 (n : Int)) := N6 Tryd.underlying123 a n c
theorem b2R {a : Option Addr} {g o : Nat} (ha : a = some ⟨g, o, none⟩) (len cap : Nat) (k : IntKind) (i : Int) (h0 : 0 ≤ i) (h1 : i < len) : Pu Tryd.prog (xV (Instr.indexAt 123 (.slice a len cap) (.int k i))) (.pointer (some ⟨g, o + i.toNat * 1, none⟩)) := Q4 Tryd.underlying123 Tryd.sizeOf126 ha len cap k i h0 h1
theorem a4P {g o : Nat} : Pu Tryd.prog (xV (Instr.fieldAt 116 (.pointer (some ⟨g, o, none⟩)) 0)) (.pointer (some ⟨g, o + 0, none⟩)) := Pu.ok fun w => by kernel_rfl
theorem a7t {g o : Nat} : Pu Tryd.prog (xV (Instr.fieldAt 116 (.pointer (some ⟨g, o, none⟩)) 1)) (.pointer (some ⟨g, o + 1, none⟩)) := Pu.ok fun w => by kernel_rfl
theorem a4Q {g o : Nat} : Pu Tryd.prog (xV (Instr.fieldAt 116 (.pointer (some ⟨g, o, none⟩)) 3)) (.pointer (some ⟨g, o + 3, none⟩)) := Pu.ok fun w => by kernel_rfl
theorem a4R {g o : Nat} : Pu Tryd.prog (xV (Instr.fieldAt 116 (.pointer (some ⟨g, o, none⟩)) 4)) (.pointer (some ⟨g, o + 4, none⟩)) := Pu.ok fun w => by kernel_rfl
theorem a4S {g o : Nat} : Pu Tryd.prog (xV (Instr.fieldAt 116 (.pointer (some ⟨g, o, none⟩)) 5)) (.pointer (some ⟨g, o + 5, none⟩)) := Pu.ok fun w => by kernel_rfl
theorem a7X (a : Option Addr) (n c : Nat) : Pu Tryd.prog (xBuiltin .len #[135] 3 [false] [.slice a n c]) (.int .i64 (n : Int)) := N6 Tryd.underlying135 a n c
theorem a8S {a : Option Addr} {g o : Nat} (ha : a = some ⟨g, o, none⟩) (len cap : Nat) (k : IntKind) (i : Int) (h0 : 0 ≤ i) (h1 : i < len) : Pu Tryd.prog (xV (Instr.indexAt 135 (.slice a len cap) (.int k i))) (.pointer (some ⟨g, o + i.toNat * 1, none⟩)) := Q4 Tryd.underlying135 Tryd.sizeOf123 ha len cap k i h0 h1
theorem b2S (s : ByteArray) : Pu Tryd.prog (xV (Instr.makeInterface 9 (.string s))) (.iface 9 (.string s)) := Pu.ok fun w => by kernel_rfl
abbrev l7 (x : c7) : List Value := [(v2 x)]
theorem E1 (x : c7) : (l7 x).length = 1 := rfl
theorem G6 (x : c7) : (l7 x).all (·.oneCell') = true := a9e x
theorem b1r : Tryd.prog.info? 126 = some ((Tryd.prog.info? 126).getD default) := by kernel_rfl
theorem a5d {E : Pan} {w0 w : World} {ps : Nat → Prop} {H0 H : Hp} {Fs : List Frag} {K : Value → World → Prop} {s : Sl} {xs : List c7} {F : Frag} {t2 : Sl} {ys : List c7} {ks : List Bool} {ty : TypeId} (I : Inv w0 ps H0 H (F :: Fs) w) (hr : RowL 126 1 l7 s xs F) (hs : SrcO w l7 t2 ys) (hb : (xs.length + ys.length) * 17 ≤ 140737488355328) (h : ∀ (s' : Sl) (F' : Frag) (w' : World), RowL 126 1 l7 s' (xs ++ ys) F' → Inv w0 ps H0 H (F' :: Fs) w' → (∀ k, k < w.heap.size → (∀ p ∈ F, p.1 ≠ k) → w'.heap[k]? = w.heap[k]?) → K (.slice s'.a s'.n s'.c) w') : opK Tryd.prog E (xBuiltin .append #[123, 123] ty ks [.slice s.a s.n s.c, .slice t2.a t2.n t2.c]) w K :=
  a6S (bytes := 16) Tryd.underlying123 b1r (z := Value.nilIface) (by kernel_rfl) (by kernel_rfl) (by kernel_rfl) (by kernel_rfl) I hr hs hb h
theorem a9M (a0j : ByteArray) (a0k : Int) : Pu Tryd.prog (xV (Instr.build 138 #[(0, (Value.agg #[(Value.string a0j), (Value.int .i64 a0k)]))])) (.agg #[(Value.string a0j), (Value.int .i64 a0k)]) := Pu.ok fun w => by kernel_rfl
theorem a8t (x : K4) : Pu Tryd.prog (xV (Instr.makeInterface 138 (.agg #[(Value.string x.M8.d8), (Value.int .i64 x.M8.X0)]))) (v2 (c7.B2 x)) := Pu.ok fun w => rfl
theorem a9N (a0j : Int) (a0k : ByteArray) (a0_2a : Option Addr) (a0_2n a0_2c : Nat) (a0_3a : Option Addr) (a0_3n a0_3c : Nat) (a0_4a : Option Addr) (a0_4n a0_4c : Nat) (a0_5a : Option Addr) (a0_5n a0_5c : Nat) : Pu Tryd.prog (xV (Instr.build 140 #[(0, (Value.agg #[(Value.int .i64 a0j), (Value.string a0k), (Value.slice a0_2a a0_2n a0_2c), (Value.slice a0_3a a0_3n a0_3c), (Value.slice a0_4a a0_4n a0_4c), (Value.slice a0_5a a0_5n a0_5c)]))])) (.agg #[(Value.int .i64 a0j), (Value.string a0k), (Value.slice a0_2a a0_2n a0_2c), (Value.slice a0_3a a0_3n a0_3c), (Value.slice a0_4a a0_4n a0_4c), (Value.slice a0_5a a0_5n a0_5c)]) := Pu.ok fun w => by kernel_rfl
theorem a8u (x : F1) : Pu Tryd.prog (xV (Instr.makeInterface 140 (.agg #[(Value.int .i64 x.d6.d5), (Value.string x.d6.d8), (Value.slice x.d6.g5.a x.d6.g5.n x.d6.g5.c), (Value.slice x.d6.o3.a x.d6.o3.n x.d6.o3.c), (Value.slice x.d6.D8.a x.d6.D8.n x.d6.D8.c), (Value.slice x.d6.D9.a x.d6.D9.n x.d6.D9.c)]))) (v2 (c7.y6 x)) := Pu.ok fun w => rfl
theorem a9h (x : c7) : Pu Tryd.prog (xV (Instr.typeAssert (v2 x) 126 138 true)) (.tuple #[(Value.agg #[(Value.string ((((x.V5)).M8).d8)), (Value.int .i64 ((((x.V5)).M8).X0))]), .bool (x.a1q)]) := by
  cases x <;> exact Pu.ok fun w => by kernel_rfl
theorem a4T {g o : Nat} : Pu Tryd.prog (xV (Instr.fieldAt 138 (.pointer (some ⟨g, o, none⟩)) 0)) (.pointer (some ⟨g, o + 0, none⟩)) := Pu.ok fun w => by kernel_rfl
theorem a9i (x : c7) : Pu Tryd.prog (xV (Instr.typeAssert (v2 x) 126 140 true)) (.tuple #[(Value.agg #[(Value.int .i64 ((((x.m3)).d6).d5)), (Value.string ((((x.m3)).d6).d8)), (Value.slice ((((x.m3)).d6).g5).a ((((x.m3)).d6).g5).n ((((x.m3)).d6).g5).c), (Value.slice ((((x.m3)).d6).o3).a ((((x.m3)).d6).o3).n ((((x.m3)).d6).o3).c), (Value.slice ((((x.m3)).d6).D8).a ((((x.m3)).d6).D8).n ((((x.m3)).d6).D8).c), (Value.slice ((((x.m3)).d6).D9).a ((((x.m3)).d6).D9).n ((((x.m3)).d6).D9).c)]), .bool (x.a1r)]) := by
  cases x <;> exact Pu.ok fun w => by kernel_rfl
theorem C3 {g o : Nat} : Pu Tryd.prog (xV (Instr.fieldAt 140 (.pointer (some ⟨g, o, none⟩)) 0)) (.pointer (some ⟨g, o + 0, none⟩)) := Pu.ok fun w => by kernel_rfl
theorem a9j (x : c7) : Pu Tryd.prog (xV (Instr.typeAssert (v2 x) 126 146 true)) (.tuple #[(Value.agg #[(Value.int .i64 ((((x.v7)).l9).d5)), (Value.int .i64 ((((x.v7)).l9).y8)), (Value.string ((((x.v7)).l9).d8)), (Value.slice ((((x.v7)).l9).u7).a ((((x.v7)).l9).u7).n ((((x.v7)).l9).u7).c)]), .bool (x.a1s)]) := by
  cases x <;> exact Pu.ok fun w => by kernel_rfl
theorem N5 {g o : Nat} : Pu Tryd.prog (xV (Instr.fieldAt 146 (.pointer (some ⟨g, o, none⟩)) 0)) (.pointer (some ⟨g, o + 0, none⟩)) := Pu.ok fun w => by kernel_rfl
theorem a9O {a : Option Addr} {g o : Nat} (ha : a = some ⟨g, o, none⟩) (len cap : Nat) (k : IntKind) (i : Int) (h0 : 0 ≤ i) (h1 : i < len) : Pu Tryd.prog (xV (Instr.indexAt 26 (.slice a len cap) (.int k i))) (.pointer (some ⟨g, o + i.toNat * 1, none⟩)) := Q4 Tryd.underlying26 Tryd.sizeOf9 ha len cap k i h0 h1
theorem V6 (a0 : Int) (a1 : Int) : Pu Tryd.prog (xV (Instr.build 175 #[(0, (Value.int .i64 a0)), (1, (Value.int .i64 a1))])) (.agg #[(Value.int .i64 a0), (Value.int .i64 a1)]) := Pu.ok fun w => by kernel_rfl
theorem b5D (d : Nat) (a0 b0 : Int) (a1 b1 : Int) (w : World) : (Op.equalIn (d + 2) 175 (.agg #[(Value.int .i64 a0), (Value.int .i64 a1)]) (.agg #[(Value.int .i64 b0), (Value.int .i64 b1)])).run Tryd.prog w = .ok (decide (a0 = b0 ∧ a1 = b1)) w := by
  have u3 := Tryd.underlying3
  have i3 := Tryd.isAgg3
  have s3 := Tryd.sizeOf3
  have hS : Tryd.prog.underlying 175 = some (.struct (Tryd.prog.fieldsOf 175)) := by kernel_rfl
  rw [run_equalIn_agg w (d + 1) 175 _ _ hS (by kernel_rfl)]
  simp only [Program.fieldsOf, Tryd.underlying175]
  go_simp
  try simp only [a5u]
  by_cases h0 : a0 = b0
  · by_cases h1 : a1 = b1
    · simp [h0, h1]
    · simp [h0, h1]
  · simp [h0]
theorem a2i (x y : Operand) (a0 b0 : Int) (a1 b1 : Int) : Pu Tryd.prog (xBin .eql 175 x y (.agg #[(Value.int .i64 a0), (Value.int .i64 a1)]) (.agg #[(Value.int .i64 b0), (Value.int .i64 b1)])) (.bool (decide (a0 = b0 ∧ a1 = b1))) := by
  refine Pu.ok (s := do eqGuard .eql 175 x y (.agg #[(Value.int .i64 a0), (Value.int .i64 a1)]) (.agg #[(Value.int .i64 b0), (Value.int .i64 b1)]); binOp .eql 175 (.agg #[(Value.int .i64 a0), (Value.int .i64 a1)]) (.agg #[(Value.int .i64 b0), (Value.int .i64 b1)])) fun w => ?_
  rw [Sem.run_bind, run_eqGuard_agg w _ _ _ _ _ _ (by kernel_rfl), Result.andThen_ok, run_eql_struct, show (10000 : Nat) = 9998 + 2 from rfl, b5D]
  rfl
theorem b1O  : Pu Tryd.prog (xV (Instr.build 175 #[])) (.agg #[(Value.int .i64 0), (Value.int .i64 0)]) := Pu.ok fun w => by kernel_rfl
theorem b4d (a0a : Option Addr) (a0n a0c : Nat) (a1a : Option Addr) (a1n a1c : Nat) (a2a : Option Addr) (a2n a2c : Nat) (a3a : Option Addr) (a3n a3c : Nat) (w : World) : (Instr.buildSlice 135 4 #[(0, (Value.slice a0a a0n a0c)), (1, (Value.slice a1a a1n a1c)), (2, (Value.slice a2a a2n a2c)), (3, (Value.slice a3a a3n a3c))]).run Tryd.prog w = .ok (.slice (some ⟨w.heap.size, 0, none⟩) 4 4) (w.alloc (.cells [(Value.slice a0a a0n a0c), (Value.slice a1a a1n a1c), (Value.slice a2a a2n a2c), (Value.slice a3a a3n a3c)].toArray 123)) := by kernel_rfl
theorem a9P (a0j : Int) (a0k : Int) (a0_2a : Option Addr) (a0_2n a0_2c : Nat) (a0_3a : Option Addr) (a0_3n a0_3c : Nat) : Pu Tryd.prog (xV (Instr.build 181 #[(0, (Value.agg #[(Value.int .i64 a0j), (Value.int .i64 a0k), (Value.slice a0_2a a0_2n a0_2c), (Value.slice a0_3a a0_3n a0_3c)]))])) (.agg #[(Value.int .i64 a0j), (Value.int .i64 a0k), (Value.slice a0_2a a0_2n a0_2c), (Value.slice a0_3a a0_3n a0_3c)]) := Pu.ok fun w => by kernel_rfl
theorem a8v (x : F3) : Pu Tryd.prog (xV (Instr.makeInterface 181 (.agg #[(Value.int .i64 x.i8.d5), (Value.int .i64 x.i8.fOp), (Value.slice x.i8.g5.a x.i8.g5.n x.i8.g5.c), (Value.slice x.i8.o7.a x.i8.o7.n x.i8.o7.c)]))) (v2 (c7.B8 x)) := Pu.ok fun w => rfl
theorem a9Q (a0j : Int) (a0k : Int) (a9K : ByteArray) (a0_3a : Option Addr) (a0_3n a0_3c : Nat) : Pu Tryd.prog (xV (Instr.build 146 #[(0, (Value.agg #[(Value.int .i64 a0j), (Value.int .i64 a0k), (Value.string a9K), (Value.slice a0_3a a0_3n a0_3c)]))])) (.agg #[(Value.int .i64 a0j), (Value.int .i64 a0k), (Value.string a9K), (Value.slice a0_3a a0_3n a0_3c)]) := Pu.ok fun w => by kernel_rfl
theorem a5e (x : B7) : Pu Tryd.prog (xV (Instr.makeInterface 146 (.agg #[(Value.int .i64 x.l9.d5), (Value.int .i64 x.l9.y8), (Value.string x.l9.d8), (Value.slice x.l9.u7.a x.l9.u7.n x.l9.u7.c)]))) (v2 (c7.v1 x)) := Pu.ok fun w => rfl
theorem Q7 {g o : Nat} : Pu Tryd.prog (xV (Instr.fieldAt 181 (.pointer (some ⟨g, o, none⟩)) 0)) (.pointer (some ⟨g, o + 0, none⟩)) := Pu.ok fun w => by kernel_rfl
theorem a1w (a0 : Int) (a1 : Int) : Pu Tryd.prog (xV (Instr.build 184 #[(0, (Value.int .i64 a0)), (1, (Value.int .i64 a1))])) (.agg #[(Value.int .i64 a0), (Value.int .i64 a1)]) := Pu.ok fun w => by kernel_rfl
theorem b5E (d : Nat) (a0 b0 : Int) (a1 b1 : Int) (w : World) : (Op.equalIn (d + 2) 184 (.agg #[(Value.int .i64 a0), (Value.int .i64 a1)]) (.agg #[(Value.int .i64 b0), (Value.int .i64 b1)])).run Tryd.prog w = .ok (decide (a0 = b0 ∧ a1 = b1)) w := by
  have u3 := Tryd.underlying3
  have i3 := Tryd.isAgg3
  have s3 := Tryd.sizeOf3
  have hS : Tryd.prog.underlying 184 = some (.struct (Tryd.prog.fieldsOf 184)) := by kernel_rfl
  rw [run_equalIn_agg w (d + 1) 184 _ _ hS (by kernel_rfl)]
  simp only [Program.fieldsOf, Tryd.underlying184]
  go_simp
  try simp only [a5u]
  by_cases h0 : a0 = b0
  · by_cases h1 : a1 = b1
    · simp [h0, h1]
    · simp [h0, h1]
  · simp [h0]
theorem a4I (x y : Operand) (a0 b0 : Int) (a1 b1 : Int) : Pu Tryd.prog (xBin .eql 184 x y (.agg #[(Value.int .i64 a0), (Value.int .i64 a1)]) (.agg #[(Value.int .i64 b0), (Value.int .i64 b1)])) (.bool (decide (a0 = b0 ∧ a1 = b1))) := by
  refine Pu.ok (s := do eqGuard .eql 184 x y (.agg #[(Value.int .i64 a0), (Value.int .i64 a1)]) (.agg #[(Value.int .i64 b0), (Value.int .i64 b1)]); binOp .eql 184 (.agg #[(Value.int .i64 a0), (Value.int .i64 a1)]) (.agg #[(Value.int .i64 b0), (Value.int .i64 b1)])) fun w => ?_
  rw [Sem.run_bind, run_eqGuard_agg w _ _ _ _ _ _ (by kernel_rfl), Result.andThen_ok, run_eql_struct, show (10000 : Nat) = 9998 + 2 from rfl, b5E]
  rfl
theorem b1P  : Pu Tryd.prog (xV (Instr.build 184 #[])) (.agg #[(Value.int .i64 0), (Value.int .i64 0)]) := Pu.ok fun w => by kernel_rfl
theorem a5H (a0 : c7) (w : World) : (Instr.buildSlice 123 1 #[(0, (v2 a0))]).run Tryd.prog w = .ok (.slice (some ⟨w.heap.size, 0, none⟩) 1 1) (w.alloc (.cells [(v2 a0)].toArray 126)) := by cases a0 <;> kernel_rfl
abbrev m0 (x : m1) : List Value := [(Value.slice x.a2r.a x.a2r.n x.a2r.c), (Value.slice x.a1W.a x.a1W.n x.a1W.c)]
abbrev v6 (x : C0) : List Value := [(Value.slice x.u9.a x.u9.n x.u9.c), (Value.int .i64 x.J7), (Value.slice x.A7.a x.A7.n x.A7.c), (Value.int .i64 x.A9), (Value.int .i64 x.C2), (Value.slice x.Y6.a x.Y6.n x.Y6.c)]
abbrev m4 (x : j8) : List Value := [(Value.int .i64 x.G1), (Value.int .i64 x.y8)]
abbrev f9 (x : m2) : List Value := [(Value.int .i64 x.d5), (Value.int .i64 x.fOp), (Value.slice x.g5.a x.g5.n x.g5.c), (Value.slice x.o7.a x.o7.n x.o7.c)]
abbrev a5f (x : f5) : List Value := [(Value.int .i64 x.fnodes), (Value.int .i64 x.fdepth), (Value.int .i64 x.fe), (Value.bool x.fform), (Value.bool x.fnamed), (Value.slice x.fnames.a x.fnames.n x.fnames.c)]
end Go.Proofs.YtaokfhdinhimfaaDoor
