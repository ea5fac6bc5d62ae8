/- Single operations at this program's types, and its structures; printed by lift.py. -/
import Derived.Test.YtaokfhdinhimfaaDoorProg
import Derived.KernelRfl
import Derived.Laws.StructEq
import Derived.Laws.Cover2
import Derived.Test.YtaokfhdinhimfaaDoorySS5
namespace Go.Proofs.YtaokfhdinhimfaaDoor
open Go.RowKit
set_option maxRecDepth 100000
set_option maxHeartbeats 2000000
structure m3 where
  d4 : Int
  p6 : Int
  g7 : ByteArray
  z7 : Sl
structure i7 where
  g7 : ByteArray
  K0 : Int
structure l0 where
  d4 : Int
  g7 : ByteArray
  i8 : Sl
  q9 : Sl
  G9 : Sl
  H7 : Sl
structure m6 where
  a1o : Sl
  a1w : Sl
structure m0 where
  p7 : Sl
  r8 : Int
  m9 : Sl
  f4 : Int
  s7 : Int
  v7 : Sl
structure i5 where
  s8 : Int
  p6 : Int
structure c6 where
  u9 : Int
  fTo : Int
  d4 : Int
  a0W : Int
  Q1 : Int
  fOp : Int
  fA : i5
  fB : i5
structure d3 where
  fc : m0
  fvars : (Option Nat)
  farrays : (Option Nat)
structure o9 where
  d4 : Int
  fOp : Int
  i8 : Sl
  r9 : Sl
structure d8 where
  m7 : m0
structure f3 where
  fdst : Bool
  farr : Bool
  fop : Bool
  fa : Bool
  fb : Bool
structure g8 where
  fl : Sl
structure d5 where
  fname : ByteArray
  fas : Int
structure i4 where
  fnodes : Int
  fdepth : Int
  fe : Int
  fform : Bool
  fnamed : Bool
  fnames : Sl
structure M7 where
  P6 : i7
structure H9 where
  d9 : l0
structure C7 where
  o0 : m3
structure I0 where
  m4 : o9
structure q5 where
  fexprs : Int
  fconds : Int
structure l9 where
  fexprs : Int
  fparts : Int
abbrev m1 (x : d3) (s0 : Sl) : List Value := [(vs x.fc.p7), (vi x.fc.r8), (vs x.fc.m9), (vi x.fc.f4), (vi x.fc.s7), (vs s0), (Value.map x.fvars), (Value.map x.farrays)]
abbrev c8 (x : d3) : d3 := d3.mk (m0.mk x.fc.p7 x.fc.r8 x.fc.m9 x.fc.f4 x.fc.s7 (Sl.mk none 0 0)) x.fvars x.farrays
abbrev S3 (x : i4) (s0 : Sl) : List Value := [(vi x.fnodes), (vi x.fdepth), (vi x.fe), (Value.bool x.fform), (Value.bool x.fnamed), (vs s0)]
abbrev Q6 (x : i4) : i4 := i4.mk x.fnodes x.fdepth x.fe x.fform x.fnamed (Sl.mk none 0 0)
inductive d2 where
  | nil
  | C1 (x : M7)
  | A7 (x : H9)
  | z8 (x : C7)
  | C8 (x : I0)
def A0 : d2 → Value
  | .nil => .nilIface
  | .C1 x => .iface 138 (.agg #[(Value.string x.P6.g7), (Value.int .i64 x.P6.K0)])
  | .A7 x => .iface 140 (.agg #[(Value.int .i64 x.d9.d4), (Value.string x.d9.g7), (Value.slice x.d9.i8.a x.d9.i8.n x.d9.i8.c), (Value.slice x.d9.q9.a x.d9.q9.n x.d9.q9.c), (Value.slice x.d9.G9.a x.d9.G9.n x.d9.G9.c), (Value.slice x.d9.H7.a x.d9.H7.n x.d9.H7.c)])
  | .z8 x => .iface 146 (.agg #[(Value.int .i64 x.o0.d4), (Value.int .i64 x.o0.p6), (Value.string x.o0.g7), (Value.slice x.o0.z7.a x.o0.z7.n x.o0.z7.c)])
  | .C8 x => .iface 181 (.agg #[(Value.int .i64 x.m4.d4), (Value.int .i64 x.m4.fOp), (Value.slice x.m4.i8.a x.m4.i8.n x.m4.i8.c), (Value.slice x.m4.r9.a x.m4.r9.n x.m4.r9.c)])
theorem b1i (x : d2) : [A0 x].all (·.oneCell') = true := by cases x <;> rfl
def d2.a0b : d2 → M7
  | .C1 x => x
  | _ => (M7.mk (i7.mk ⟨#[]⟩ 0))
def d2.a2S : d2 → Bool
  | .C1 _ => true
  | _ => false
def d2.o6 : d2 → H9
  | .A7 x => x
  | _ => (H9.mk (l0.mk 0 ⟨#[]⟩ (Sl.mk none 0 0) (Sl.mk none 0 0) (Sl.mk none 0 0) (Sl.mk none 0 0)))
def d2.a2T : d2 → Bool
  | .A7 _ => true
  | _ => false
def d2.A4 : d2 → C7
  | .z8 x => x
  | _ => (C7.mk (m3.mk 0 0 ⟨#[]⟩ (Sl.mk none 0 0)))
def d2.a2U : d2 → Bool
  | .z8 _ => true
  | _ => false
abbrev i6 (x : m3) : List Value := [(Value.int .i64 x.d4), (Value.int .i64 x.p6), (Value.string x.g7), (Value.slice x.z7.a x.z7.n x.z7.c)]
abbrev g9 (x : i7) : List Value := [(Value.string x.g7), (Value.int .i64 x.K0)]
theorem a4W (x : i7) : (g9 x).length = 2 := rfl
theorem a7W (x : i7) : (g9 x).all (·.oneCell') = true := rfl
abbrev m5 (x : l0) : List Value := [(Value.int .i64 x.d4), (Value.string x.g7), (Value.slice x.i8.a x.i8.n x.i8.c), (Value.slice x.q9.a x.q9.n x.q9.c), (Value.slice x.G9.a x.G9.n x.G9.c), (Value.slice x.H7.a x.H7.n x.H7.c)]
theorem a4X (x : l0) : (m5 x).length = 6 := rfl
theorem a4Y (x : l0) : (m5 x).all (·.oneCell') = true := rfl
theorem b3J (a1p : Int) (a0h : ByteArray) (a0_2a : Option Addr) (a0_2n a0_2c : Nat) (a0_3a : Option Addr) (a0_3n a0_3c : Nat) (a0_4a : Option Addr) (a0_4n a0_4c : Nat) (a0_5a : Option Addr) (a0_5n a0_5c : Nat) (w : World) : (Instr.buildSlice 37 1 #[(0, (Value.agg #[(Value.int .i64 a1p), (Value.string a0h), (Value.slice a0_2a a0_2n a0_2c), (Value.slice a0_3a a0_3n a0_3c), (Value.slice a0_4a a0_4n a0_4c), (Value.slice a0_5a a0_5n a0_5c)]))]).run Tryd.prog w = .ok (.slice (some ⟨w.heap.size, 0, none⟩) 1 1) (w.alloc (.cells [(Value.int .i64 a1p), (Value.string a0h), (Value.slice a0_2a a0_2n a0_2c), (Value.slice a0_3a a0_3n a0_3c), (Value.slice a0_4a a0_4n a0_4c), (Value.slice a0_5a a0_5n a0_5c)].toArray 39)) := by kernel_rfl
theorem a0P {g o : Nat} : Pu Tryd.prog (xV (Instr.fieldAt 30 (.pointer (some ⟨g, o, none⟩)) 1)) (.pointer (some ⟨g, o + 1, none⟩)) := Pu.ok fun w => by kernel_rfl
theorem M8 {g o : Nat} : Pu Tryd.prog (xV (Instr.fieldAt 30 (.pointer (some ⟨g, o, none⟩)) 5)) (.pointer (some ⟨g, o + 5, none⟩)) := Pu.ok fun w => by kernel_rfl
theorem a3J (a : Option Addr) (n c : Nat) : Pu Tryd.prog (xBuiltin .len #[28] 3 [false] [.slice a n c]) (.int .i64 (n : Int)) := N9 Tryd.underlying28 a n c
theorem K1 {g o : Nat} : Pu Tryd.prog (xV (Instr.fieldAt 30 (.pointer (some ⟨g, o, none⟩)) 3)) (.pointer (some ⟨g, o + 3, none⟩)) := Pu.ok fun w => by kernel_rfl
theorem a0X {a : Option Addr} {g o : Nat} (ha : a = some ⟨g, o, none⟩) (len cap : Nat) (k : IntKind) (i : Int) (h0 : 0 ≤ i) (h1 : i < len) : Pu Tryd.prog (xV (Instr.indexAt 28 (.slice a len cap) (.int k i))) (.pointer (some ⟨g, o + i.toNat * 10, none⟩)) := M5 Tryd.underlying28 Tryd.sizeOf46 ha len cap k i h0 h1
theorem a1x {g o : Nat} : Pu Tryd.prog (xV (Instr.fieldAt 46 (.pointer (some ⟨g, o, none⟩)) 2)) (.pointer (some ⟨g, o + 2, none⟩)) := Pu.ok fun w => by kernel_rfl
theorem a2V {g o : Nat} : Pu Tryd.prog (xV (Instr.fieldAt 41 (.pointer (some ⟨g, o, none⟩)) 1)) (.pointer (some ⟨g, o + 1, none⟩)) := Pu.ok fun w => by kernel_rfl
theorem b5i  : Pu Tryd.prog (xV (Instr.build 41 #[])) (.agg #[(Value.slice none 0 0), (Value.slice none 0 0)]) := Pu.ok fun w => by kernel_rfl
theorem a9k (a0 : Int) : Pu Tryd.prog (xV (Instr.build 39 #[(0, (Value.int .i64 a0))])) (.agg #[(Value.int .i64 a0), (Value.string ⟨#[]⟩), (Value.slice none 0 0), (Value.slice none 0 0), (Value.slice none 0 0), (Value.slice none 0 0)]) := Pu.ok fun w => by kernel_rfl
theorem b9q : Tryd.prog.info? 39 = some ((Tryd.prog.info? 39).getD default) := by kernel_rfl
theorem b9r {E : Pan} {w0 w : World} {ps : Nat → Prop} {H0 H : Hp} {Fs : List Frag} {K : Value → World → Prop} {s : Sl} {xs : List l0} {F : Frag} {t2 : Sl} {ys : List l0} {ks : List Bool} {ty : TypeId} (I : Inv w0 ps H0 H (F :: Fs) w) (hr : RowL 39 6 m5 s xs F) (hs : SrcO w m5 t2 ys) (hb : (xs.length + ys.length) * 121 ≤ 140737488355328) (h : ∀ (s' : Sl) (F' : Frag) (w' : World), RowL 39 6 m5 s' (xs ++ ys) F' → Inv w0 ps H0 H (F' :: Fs) w' → (∀ k, k < w.heap.size → (∀ p ∈ F, p.1 ≠ k) → w'.heap[k]? = w.heap[k]?) → K (.slice s'.a s'.n s'.c) w') : opK Tryd.prog E (xBuiltin .append #[37, 37] ty ks [.slice s.a s.n s.c, .slice t2.a t2.n t2.c]) w K :=
  a7f (bytes := 120) Tryd.underlying37 b9q (z := (Value.agg #[(Value.int .i64 0), (Value.string ⟨#[]⟩), (Value.slice none 0 0), (Value.slice none 0 0), (Value.slice none 0 0), (Value.slice none 0 0)])) (by kernel_rfl) (by kernel_rfl) (by kernel_rfl) (by kernel_rfl) I hr hs hb h
theorem a1y {g o : Nat} : Pu Tryd.prog (xV (Instr.fieldAt 30 (.pointer (some ⟨g, o, none⟩)) 4)) (.pointer (some ⟨g, o + 4, none⟩)) := Pu.ok fun w => by kernel_rfl
theorem b0V (a : Option Addr) (n c : Nat) : Pu Tryd.prog (xBuiltin .len #[49] 3 [false] [.slice a n c]) (.int .i64 (n : Int)) := N9 Tryd.underlying49 a n c
theorem a0i {a : Option Addr} {g o : Nat} (ha : a = some ⟨g, o, none⟩) (len cap : Nat) (k : IntKind) (i : Int) (h0 : 0 ≤ i) (h1 : i < len) : Pu Tryd.prog (xV (Instr.indexAt 49 (.slice a len cap) (.int k i))) (.pointer (some ⟨g, o + i.toNat * 1, none⟩)) := M5 Tryd.underlying49 Tryd.sizeOf3 ha len cap k i h0 h1
theorem T4 {g o : Nat} : Pu Tryd.prog (xV (Instr.fieldAt 46 (.pointer (some ⟨g, o, none⟩)) 0)) (.pointer (some ⟨g, o + 0, none⟩)) := Pu.ok fun w => by kernel_rfl
theorem a5j {g o : Nat} : Pu Tryd.prog (xV (Instr.fieldAt 46 (.pointer (some ⟨g, o, none⟩)) 1)) (.pointer (some ⟨g, o + 1, none⟩)) := Pu.ok fun w => by kernel_rfl
theorem b3s (a1a : Option Addr) (a1n a1c : Nat) : Pu Tryd.prog (xV (Instr.build 41 #[(1, (Value.slice a1a a1n a1c))])) (.agg #[(Value.slice none 0 0), (Value.slice a1a a1n a1c)]) := Pu.ok fun w => by kernel_rfl
theorem a3z (a0 : Int) : Pu Tryd.prog (xV (Instr.build 44 #[(0, (Value.int .i64 a0))])) (.agg #[(Value.int .i64 a0), (Value.int .i64 0)]) := Pu.ok fun w => by kernel_rfl
theorem a6I (a1 : Int) (a2 : Int) (a3 : Int) (a4 : Int) (b1I : Int) (b1J : Int) (b1K : Int) (b1L : Int) : Pu Tryd.prog (xV (Instr.build 46 #[(1, (Value.int .i64 a1)), (2, (Value.int .i64 a2)), (3, (Value.int .i64 a3)), (4, (Value.int .i64 a4)), (6, (Value.agg #[(Value.int .i64 b1I), (Value.int .i64 b1J)])), (7, (Value.agg #[(Value.int .i64 b1K), (Value.int .i64 b1L)]))])) (.agg #[(Value.int .i64 0), (Value.int .i64 a1), (Value.int .i64 a2), (Value.int .i64 a3), (Value.int .i64 a4), (Value.int .i64 0), (Value.int .i64 b1I), (Value.int .i64 b1J), (Value.int .i64 b1K), (Value.int .i64 b1L)]) := Pu.ok fun w => by kernel_rfl
theorem b1M (d : Nat) (a0 b0 : Int) (a1 b1 : Int) (w : World) : (Op.equalIn (d + 2) 44 (.agg #[(Value.int .i64 a0), (Value.int .i64 a1)]) (.agg #[(Value.int .i64 b0), (Value.int .i64 b1)])).run Tryd.prog w = .ok (decide (a0 = b0 ∧ a1 = b1)) w := by
  have u3 := Tryd.underlying3
  have i3 := Tryd.isAgg3
  have s3 := Tryd.sizeOf3
  have u2 := Tryd.underlying2
  have i2 := Tryd.isAgg2
  have s2 := Tryd.sizeOf2
  have hS : Tryd.prog.underlying 44 = some (.struct (Tryd.prog.fieldsOf 44)) := by kernel_rfl
  rw [run_equalIn_agg w (d + 1) 44 _ _ hS (by kernel_rfl)]
  simp only [Program.fieldsOf, Tryd.underlying44]
  go_simp
  try simp only [a7e]
  by_cases h0 : a0 = b0
  · by_cases h1 : a1 = b1
    · simp [h0, h1]
    · simp [h0, h1]
  · simp [h0]
theorem a7j (x y : Operand) (a0 b0 : Int) (a1 b1 : Int) : Pu Tryd.prog (xBin .eql 44 x y (.agg #[(Value.int .i64 a0), (Value.int .i64 a1)]) (.agg #[(Value.int .i64 b0), (Value.int .i64 b1)])) (.bool (decide (a0 = b0 ∧ a1 = b1))) := by
  refine Pu.ok (s := do eqGuard .eql 44 x y (.agg #[(Value.int .i64 a0), (Value.int .i64 a1)]) (.agg #[(Value.int .i64 b0), (Value.int .i64 b1)]); binOp .eql 44 (.agg #[(Value.int .i64 a0), (Value.int .i64 a1)]) (.agg #[(Value.int .i64 b0), (Value.int .i64 b1)])) fun w => ?_
  rw [Sem.run_bind, run_eqGuard_agg w _ _ _ _ _ _ (by kernel_rfl), Result.andThen_ok, run_eql_struct, show (10000 : Nat) = 9998 + 2 from rfl, b1M]
  rfl
theorem b9s (d : Nat) (a0 b0 : Int) (a1 b1 : Int) (a2 b2 : Int) (a3 b3 : Int) (a4 b4 : Int) (a5 b5 : Int) (a6 b6 : Int) (a7 b7 : Int) (a8 b8 : Int) (a9 b9 : Int) (w : World) : (Op.equalIn (d + 3) 46 (.agg #[(Value.int .i64 a0), (Value.int .i64 a1), (Value.int .i64 a2), (Value.int .i64 a3), (Value.int .i64 a4), (Value.int .i64 a5), (Value.int .i64 a6), (Value.int .i64 a7), (Value.int .i64 a8), (Value.int .i64 a9)]) (.agg #[(Value.int .i64 b0), (Value.int .i64 b1), (Value.int .i64 b2), (Value.int .i64 b3), (Value.int .i64 b4), (Value.int .i64 b5), (Value.int .i64 b6), (Value.int .i64 b7), (Value.int .i64 b8), (Value.int .i64 b9)])).run Tryd.prog w = .ok (decide (a0 = b0 ∧ a1 = b1 ∧ a2 = b2 ∧ a3 = b3 ∧ a4 = b4 ∧ a5 = b5 ∧ a6 = b6 ∧ a7 = b7 ∧ a8 = b8 ∧ a9 = b9)) w := by
  have u3 := Tryd.underlying3
  have i3 := Tryd.isAgg3
  have s3 := Tryd.sizeOf3
  have u2 := Tryd.underlying2
  have i2 := Tryd.isAgg2
  have s2 := Tryd.sizeOf2
  have e44 := b1M d
  have i44 := Tryd.isAgg44
  have s44 := Tryd.sizeOf44
  have e44 := b1M d
  have i44 := Tryd.isAgg44
  have s44 := Tryd.sizeOf44
  have hS : Tryd.prog.underlying 46 = some (.struct (Tryd.prog.fieldsOf 46)) := by kernel_rfl
  rw [run_equalIn_agg w (d + 2) 46 _ _ hS (by kernel_rfl)]
  simp only [Program.fieldsOf, Tryd.underlying46]
  go_simp
  try simp only [a7e]
  by_cases h0 : a0 = b0
  · by_cases h1 : a1 = b1
    · by_cases h2 : a2 = b2
      · by_cases h3 : a3 = b3
        · by_cases h4 : a4 = b4
          · by_cases h5 : a5 = b5
            · by_cases h6 : a6 = b6
              · by_cases h7 : a7 = b7
                · by_cases h8 : a8 = b8
                  · by_cases h9 : a9 = b9
                    · simp [h0, h1, h2, h3, h4, h5, h6, h7, h8, h9]
                    · simp [h0, h1, h2, h3, h4, h5, h6, h7, h8, h9]
                  · simp [h0, h1, h2, h3, h4, h5, h6, h7, h8]
                · simp [h0, h1, h2, h3, h4, h5, h6, h7]
              · simp [h0, h1, h2, h3, h4, h5, h6]
            · simp [h0, h1, h2, h3, h4, h5]
          · simp [h0, h1, h2, h3, h4]
        · simp [h0, h1, h2, h3]
      · simp [h0, h1, h2]
    · simp [h0, h1]
  · simp [h0]
theorem b6O (x y : Operand) (a0 b0 : Int) (a1 b1 : Int) (a2 b2 : Int) (a3 b3 : Int) (a4 b4 : Int) (a5 b5 : Int) (a6 b6 : Int) (a7 b7 : Int) (a8 b8 : Int) (a9 b9 : Int) : Pu Tryd.prog (xBin .eql 46 x y (.agg #[(Value.int .i64 a0), (Value.int .i64 a1), (Value.int .i64 a2), (Value.int .i64 a3), (Value.int .i64 a4), (Value.int .i64 a5), (Value.int .i64 a6), (Value.int .i64 a7), (Value.int .i64 a8), (Value.int .i64 a9)]) (.agg #[(Value.int .i64 b0), (Value.int .i64 b1), (Value.int .i64 b2), (Value.int .i64 b3), (Value.int .i64 b4), (Value.int .i64 b5), (Value.int .i64 b6), (Value.int .i64 b7), (Value.int .i64 b8), (Value.int .i64 b9)])) (.bool (decide (a0 = b0 ∧ a1 = b1 ∧ a2 = b2 ∧ a3 = b3 ∧ a4 = b4 ∧ a5 = b5 ∧ a6 = b6 ∧ a7 = b7 ∧ a8 = b8 ∧ a9 = b9))) := by
  refine Pu.ok (s := do eqGuard .eql 46 x y (.agg #[(Value.int .i64 a0), (Value.int .i64 a1), (Value.int .i64 a2), (Value.int .i64 a3), (Value.int .i64 a4), (Value.int .i64 a5), (Value.int .i64 a6), (Value.int .i64 a7), (Value.int .i64 a8), (Value.int .i64 a9)]) (.agg #[(Value.int .i64 b0), (Value.int .i64 b1), (Value.int .i64 b2), (Value.int .i64 b3), (Value.int .i64 b4), (Value.int .i64 b5), (Value.int .i64 b6), (Value.int .i64 b7), (Value.int .i64 b8), (Value.int .i64 b9)]); binOp .eql 46 (.agg #[(Value.int .i64 a0), (Value.int .i64 a1), (Value.int .i64 a2), (Value.int .i64 a3), (Value.int .i64 a4), (Value.int .i64 a5), (Value.int .i64 a6), (Value.int .i64 a7), (Value.int .i64 a8), (Value.int .i64 a9)]) (.agg #[(Value.int .i64 b0), (Value.int .i64 b1), (Value.int .i64 b2), (Value.int .i64 b3), (Value.int .i64 b4), (Value.int .i64 b5), (Value.int .i64 b6), (Value.int .i64 b7), (Value.int .i64 b8), (Value.int .i64 b9)])) fun w => ?_
  rw [Sem.run_bind, run_eqGuard_agg w _ _ _ _ _ _ (by kernel_rfl), Result.andThen_ok, run_eql_struct, show (10000 : Nat) = 9997 + 3 from rfl, b9s]
  rfl
theorem a8j  : Pu Tryd.prog (xV (Instr.build 30 #[])) (.agg #[(Value.slice none 0 0), (Value.int .i64 0), (Value.slice none 0 0), (Value.int .i64 0), (Value.int .i64 0), (Value.slice none 0 0)]) := Pu.ok fun w => by kernel_rfl
theorem a9Q (a0a : Option Addr) (a0n a0c : Nat) (a2a : Option Addr) (a2n a2c : Nat) (a3 : Int) : Pu Tryd.prog (xV (Instr.build 30 #[(0, (Value.slice a0a a0n a0c)), (2, (Value.slice a2a a2n a2c)), (3, (Value.int .i64 a3))])) (.agg #[(Value.slice a0a a0n a0c), (Value.int .i64 0), (Value.slice a2a a2n a2c), (Value.int .i64 a3), (Value.int .i64 0), (Value.slice none 0 0)]) := Pu.ok fun w => by kernel_rfl
theorem Z8 (a : Option Addr) (n c : Nat) : Pu Tryd.prog (xBuiltin .len #[37] 3 [false] [.slice a n c]) (.int .i64 (n : Int)) := N9 Tryd.underlying37 a n c
theorem a9t {a : Option Addr} {g o : Nat} (ha : a = some ⟨g, o, none⟩) (len cap : Nat) (k : IntKind) (i : Int) (h0 : 0 ≤ i) (h1 : i < len) : Pu Tryd.prog (xV (Instr.indexAt 37 (.slice a len cap) (.int k i))) (.pointer (some ⟨g, o + i.toNat * 6, none⟩)) := M5 Tryd.underlying37 Tryd.sizeOf39 ha len cap k i h0 h1
theorem a3S {g o : Nat} : Pu Tryd.prog (xV (Instr.fieldAt 39 (.pointer (some ⟨g, o, none⟩)) 0)) (.pointer (some ⟨g, o + 0, none⟩)) := Pu.ok fun w => by kernel_rfl
theorem a1z {g o : Nat} : Pu Tryd.prog (xV (Instr.fieldAt 39 (.pointer (some ⟨g, o, none⟩)) 4)) (.pointer (some ⟨g, o + 4, none⟩)) := Pu.ok fun w => by kernel_rfl
theorem a2W {g o : Nat} : Pu Tryd.prog (xV (Instr.fieldAt 39 (.pointer (some ⟨g, o, none⟩)) 5)) (.pointer (some ⟨g, o + 5, none⟩)) := Pu.ok fun w => by kernel_rfl
abbrev a3K (x : Bool) : List Value := [(Value.bool x)]
theorem b5j (x : Bool) : (a3K x).length = 1 := rfl
theorem b5k (x : Bool) : (a3K x).all (·.oneCell') = true := rfl
theorem c1D : Tryd.prog.info? 4 = some ((Tryd.prog.info? 4).getD default) := by kernel_rfl
theorem b9t {E : Pan} {w0 w : World} {ps : Nat → Prop} {H0 H : Hp} {Fs : List Frag} {K : Value → World → Prop} {kl kc : IntKind} {n : Int} (I : Inv w0 ps H0 H Fs w) (hn : 0 ≤ n) (hb : n * 2 ≤ 140737488355328) (h : ∀ (s' : Sl) (F' : Frag) (w' : World), RowL 4 1 a3K s' (List.replicate n.toNat false) F' → Inv w0 ps H0 H (F' :: Fs) w' → (∀ k, k < w.heap.size → w'.heap[k]? = w.heap[k]?) → K (.slice s'.a s'.n s'.c) w') : opK Tryd.prog E (xV (Instr.makeSlice 65 (.int kl n) (.int kc n))) w K :=
  b1D (bytes := 1) (x0 := false) Tryd.underlying65 c1D (z := (Value.bool false)) (by kernel_rfl) (by kernel_rfl) (by kernel_rfl) (by kernel_rfl) I b5j b5k (by decide) kl kc n hn hb h
abbrev C9 (x : Int) : List Value := [(Value.int .i64 x)]
theorem a2w (x : Int) : (C9 x).length = 1 := rfl
theorem a2x (x : Int) : (C9 x).all (·.oneCell') = true := rfl
theorem a9u {a : Option Addr} {g o : Nat} (ha : a = some ⟨g, o, none⟩) (len cap : Nat) (k : IntKind) (i : Int) (h0 : 0 ≤ i) (h1 : i < len) : Pu Tryd.prog (xV (Instr.indexAt 65 (.slice a len cap) (.int k i))) (.pointer (some ⟨g, o + i.toNat * 1, none⟩)) := M5 Tryd.underlying65 Tryd.sizeOf4 ha len cap k i h0 h1
theorem a9v {a : Option Addr} {g o : Nat} (ha : a = some ⟨g, o, none⟩) (len cap : Nat) (k : IntKind) (i : Int) (h0 : 0 ≤ i) (h1 : i < len) : Pu Tryd.prog (xV (Instr.indexAt 63 (.slice a len cap) (.int k i))) (.pointer (some ⟨g, o + i.toNat * 1, none⟩)) := M5 Tryd.underlying63 Tryd.sizeOf49 ha len cap k i h0 h1
theorem a5D (a0 : Int) (w : World) : (Instr.buildSlice 49 1 #[(0, (Value.int .i64 a0))]).run Tryd.prog w = .ok (.slice (some ⟨w.heap.size, 0, none⟩) 1 1) (w.alloc (.cells [(Value.int .i64 a0)].toArray 3)) := by kernel_rfl
theorem c1E : Tryd.prog.info? 3 = some ((Tryd.prog.info? 3).getD default) := by kernel_rfl
theorem a8k {E : Pan} {w0 w : World} {ps : Nat → Prop} {H0 H : Hp} {Fs : List Frag} {K : Value → World → Prop} {s : Sl} {xs : List Int} {F : Frag} {t2 : Sl} {ys : List Int} {ks : List Bool} {ty : TypeId} (I : Inv w0 ps H0 H (F :: Fs) w) (hr : RowL 3 1 C9 s xs F) (hs : SrcO w C9 t2 ys) (hb : (xs.length + ys.length) * 9 ≤ 140737488355328) (h : ∀ (s' : Sl) (F' : Frag) (w' : World), RowL 3 1 C9 s' (xs ++ ys) F' → Inv w0 ps H0 H (F' :: Fs) w' → (∀ k, k < w.heap.size → (∀ p ∈ F, p.1 ≠ k) → w'.heap[k]? = w.heap[k]?) → K (.slice s'.a s'.n s'.c) w') : opK Tryd.prog E (xBuiltin .append #[49, 49] ty ks [.slice s.a s.n s.c, .slice t2.a t2.n t2.c]) w K :=
  a7f (bytes := 8) Tryd.underlying49 c1E (z := (Value.int .i64 0)) (by kernel_rfl) (by kernel_rfl) (by kernel_rfl) (by kernel_rfl) I hr hs hb h
theorem a2y (a : Option Addr) (n c : Nat) : Pu Tryd.prog (xBuiltin .len #[27] 3 [false] [.slice a n c]) (.int .i64 (n : Int)) := N9 Tryd.underlying27 a n c
theorem a2z {a : Option Addr} {g o : Nat} (ha : a = some ⟨g, o, none⟩) (len cap : Nat) (k : IntKind) (i : Int) (h0 : 0 ≤ i) (h1 : i < len) : Pu Tryd.prog (xV (Instr.indexAt 27 (.slice a len cap) (.int k i))) (.pointer (some ⟨g, o + i.toNat * 2, none⟩)) := M5 Tryd.underlying27 Tryd.sizeOf35 ha len cap k i h0 h1
theorem a0Q {g o : Nat} : Pu Tryd.prog (xV (Instr.fieldAt 35 (.pointer (some ⟨g, o, none⟩)) 0)) (.pointer (some ⟨g, o + 0, none⟩)) := Pu.ok fun w => by kernel_rfl
abbrev v1 (x : ByteArray) : List Value := [(Value.string x)]
theorem a4B (x : ByteArray) : (v1 x).length = 1 := rfl
theorem a4C (x : ByteArray) : (v1 x).all (·.oneCell') = true := rfl
theorem b3K (a0 : ByteArray) (w : World) : (Instr.buildSlice 26 1 #[(0, (Value.string a0))]).run Tryd.prog w = .ok (.slice (some ⟨w.heap.size, 0, none⟩) 1 1) (w.alloc (.cells [(Value.string a0)].toArray 9)) := by kernel_rfl
theorem c1F : Tryd.prog.info? 9 = some ((Tryd.prog.info? 9).getD default) := by kernel_rfl
theorem b5l {E : Pan} {w0 w : World} {ps : Nat → Prop} {H0 H : Hp} {Fs : List Frag} {K : Value → World → Prop} {s : Sl} {xs : List ByteArray} {F : Frag} {t2 : Sl} {ys : List ByteArray} {ks : List Bool} {ty : TypeId} (I : Inv w0 ps H0 H (F :: Fs) w) (hr : RowL 9 1 v1 s xs F) (hs : SrcO w v1 t2 ys) (hb : (xs.length + ys.length) * 17 ≤ 140737488355328) (h : ∀ (s' : Sl) (F' : Frag) (w' : World), RowL 9 1 v1 s' (xs ++ ys) F' → Inv w0 ps H0 H (F' :: Fs) w' → (∀ k, k < w.heap.size → (∀ p ∈ F, p.1 ≠ k) → w'.heap[k]? = w.heap[k]?) → K (.slice s'.a s'.n s'.c) w') : opK Tryd.prog E (xBuiltin .append #[26, 26] ty ks [.slice s.a s.n s.c, .slice t2.a t2.n t2.c]) w K :=
  a7f (bytes := 16) Tryd.underlying26 c1F (z := (Value.string ⟨#[]⟩)) (by kernel_rfl) (by kernel_rfl) (by kernel_rfl) (by kernel_rfl) I hr hs hb h
abbrev f6 (x : c6) : List Value := [(Value.int .i64 x.u9), (Value.int .i64 x.fTo), (Value.int .i64 x.d4), (Value.int .i64 x.a0W), (Value.int .i64 x.Q1), (Value.int .i64 x.fOp), (Value.int .i64 x.fA.s8), (Value.int .i64 x.fA.p6), (Value.int .i64 x.fB.s8), (Value.int .i64 x.fB.p6)]
theorem a1X (x : c6) : (f6 x).length = 10 := rfl
theorem a1Y (x : c6) : (f6 x).all (·.oneCell') = true := rfl
theorem E7 {g o : Nat} : Pu Tryd.prog (xV (Instr.fieldAt 59 (.pointer (some ⟨g, o, none⟩)) 0)) (.pointer (some ⟨g, o + 0, none⟩)) := Pu.ok fun w => by kernel_rfl
theorem a7k {g o : Nat} : Pu Tryd.prog (xV (Instr.fieldAt 59 (.pointer (some ⟨g, o, none⟩)) 1)) (.pointer (some ⟨g, o + 6, none⟩)) := Pu.ok fun w => by kernel_rfl
theorem a0R {g o : Nat} : Pu Tryd.prog (xV (Instr.fieldAt 39 (.pointer (some ⟨g, o, none⟩)) 1)) (.pointer (some ⟨g, o + 1, none⟩)) := Pu.ok fun w => by kernel_rfl
theorem a3T {g o : Nat} : Pu Tryd.prog (xV (Instr.fieldAt 39 (.pointer (some ⟨g, o, none⟩)) 2)) (.pointer (some ⟨g, o + 2, none⟩)) := Pu.ok fun w => by kernel_rfl
theorem a0Y {a : Option Addr} {g o : Nat} (ha : a = some ⟨g, o, none⟩) (len cap : Nat) (k : IntKind) (i : Int) (h0 : 0 ≤ i) (h1 : i < len) : Pu Tryd.prog (xV (Instr.indexAt 23 (.slice a len cap) (.int k i))) (.pointer (some ⟨g, o + i.toNat * 4, none⟩)) := M5 Tryd.underlying23 Tryd.sizeOf25 ha len cap k i h0 h1
theorem Q7 {g o : Nat} : Pu Tryd.prog (xV (Instr.fieldAt 25 (.pointer (some ⟨g, o, none⟩)) 0)) (.pointer (some ⟨g, o + 0, none⟩)) := Pu.ok fun w => by kernel_rfl
theorem a5k {g o : Nat} : Pu Tryd.prog (xV (Instr.fieldAt 25 (.pointer (some ⟨g, o, none⟩)) 1)) (.pointer (some ⟨g, o + 1, none⟩)) := Pu.ok fun w => by kernel_rfl
theorem a7X (a0 : Int) (a1 : Int) : Pu Tryd.prog (xV (Instr.build 44 #[(0, (Value.int .i64 a0)), (1, (Value.int .i64 a1))])) (.agg #[(Value.int .i64 a0), (Value.int .i64 a1)]) := Pu.ok fun w => by kernel_rfl
theorem a0S {g o : Nat} : Pu Tryd.prog (xV (Instr.fieldAt 25 (.pointer (some ⟨g, o, none⟩)) 3)) (.pointer (some ⟨g, o + 3, none⟩)) := Pu.ok fun w => by kernel_rfl
theorem a2X {g o : Nat} : Pu Tryd.prog (xV (Instr.fieldAt 25 (.pointer (some ⟨g, o, none⟩)) 2)) (.pointer (some ⟨g, o + 2, none⟩)) := Pu.ok fun w => by kernel_rfl
theorem a5l {g o : Nat} : Pu Tryd.prog (xV (Instr.fieldAt 46 (.pointer (some ⟨g, o, none⟩)) 3)) (.pointer (some ⟨g, o + 3, none⟩)) := Pu.ok fun w => by kernel_rfl
theorem a1v (a : Option Addr) (n c : Nat) : Pu Tryd.prog (xBuiltin .len #[23] 3 [false] [.slice a n c]) (.int .i64 (n : Int)) := N9 Tryd.underlying23 a n c
theorem a5m {g o : Nat} : Pu Tryd.prog (xV (Instr.fieldAt 30 (.pointer (some ⟨g, o, none⟩)) 0)) (.pointer (some ⟨g, o + 0, none⟩)) := Pu.ok fun w => by kernel_rfl
theorem a3L (a : Option Addr) (n c : Nat) : Pu Tryd.prog (xBuiltin .len #[26] 3 [false] [.slice a n c]) (.int .i64 (n : Int)) := N9 Tryd.underlying26 a n c
theorem a5n {g o : Nat} : Pu Tryd.prog (xV (Instr.fieldAt 44 (.pointer (some ⟨g, o, none⟩)) 0)) (.pointer (some ⟨g, o + 0, none⟩)) := Pu.ok fun w => by kernel_rfl
theorem X9 {g o : Nat} : Pu Tryd.prog (xV (Instr.fieldAt 46 (.pointer (some ⟨g, o, none⟩)) 6)) (.pointer (some ⟨g, o + 6, none⟩)) := Pu.ok fun w => by kernel_rfl
theorem a7l {g o : Nat} : Pu Tryd.prog (xV (Instr.fieldAt 59 (.pointer (some ⟨g, o, none⟩)) 2)) (.pointer (some ⟨g, o + 7, none⟩)) := Pu.ok fun w => by kernel_rfl
theorem a5o {g o : Nat} : Pu Tryd.prog (xV (Instr.fieldAt 46 (.pointer (some ⟨g, o, none⟩)) 4)) (.pointer (some ⟨g, o + 4, none⟩)) := Pu.ok fun w => by kernel_rfl
theorem b3L (a1p : Int) (a0h : Int) (b1N : Int) (b1O : Int) (b1P : Int) (b9u : Int) (b5m : Int) (b5n : Int) (b5o : Int) (b5p : Int) (w : World) : (Instr.buildSlice 28 1 #[(0, (Value.agg #[(Value.int .i64 a1p), (Value.int .i64 a0h), (Value.int .i64 b1N), (Value.int .i64 b1O), (Value.int .i64 b1P), (Value.int .i64 b9u), (Value.int .i64 b5m), (Value.int .i64 b5n), (Value.int .i64 b5o), (Value.int .i64 b5p)]))]).run Tryd.prog w = .ok (.slice (some ⟨w.heap.size, 0, none⟩) 1 1) (w.alloc (.cells [(Value.int .i64 a1p), (Value.int .i64 a0h), (Value.int .i64 b1N), (Value.int .i64 b1O), (Value.int .i64 b1P), (Value.int .i64 b9u), (Value.int .i64 b5m), (Value.int .i64 b5n), (Value.int .i64 b5o), (Value.int .i64 b5p)].toArray 46)) := by kernel_rfl
theorem b9v : Tryd.prog.info? 46 = some ((Tryd.prog.info? 46).getD default) := by kernel_rfl
theorem b5q {E : Pan} {w0 w : World} {ps : Nat → Prop} {H0 H : Hp} {Fs : List Frag} {K : Value → World → Prop} {s : Sl} {xs : List c6} {F : Frag} {t2 : Sl} {ys : List c6} {ks : List Bool} {ty : TypeId} (I : Inv w0 ps H0 H (F :: Fs) w) (hr : RowL 46 10 f6 s xs F) (hs : SrcO w f6 t2 ys) (hb : (xs.length + ys.length) * 81 ≤ 140737488355328) (h : ∀ (s' : Sl) (F' : Frag) (w' : World), RowL 46 10 f6 s' (xs ++ ys) F' → Inv w0 ps H0 H (F' :: Fs) w' → (∀ k, k < w.heap.size → (∀ p ∈ F, p.1 ≠ k) → w'.heap[k]? = w.heap[k]?) → K (.slice s'.a s'.n s'.c) w') : opK Tryd.prog E (xBuiltin .append #[28, 28] ty ks [.slice s.a s.n s.c, .slice t2.a t2.n t2.c]) w K :=
  a7f (bytes := 80) Tryd.underlying28 b9v (z := (Value.agg #[(Value.int .i64 0), (Value.int .i64 0), (Value.int .i64 0), (Value.int .i64 0), (Value.int .i64 0), (Value.int .i64 0), (Value.int .i64 0), (Value.int .i64 0), (Value.int .i64 0), (Value.int .i64 0)])) (by kernel_rfl) (by kernel_rfl) (by kernel_rfl) (by kernel_rfl) I hr hs hb h
theorem a1A {g o : Nat} : Pu Tryd.prog (xV (Instr.fieldAt 46 (.pointer (some ⟨g, o, none⟩)) 7)) (.pointer (some ⟨g, o + 8, none⟩)) := Pu.ok fun w => by kernel_rfl
theorem a1B {g o : Nat} : Pu Tryd.prog (xV (Instr.fieldAt 39 (.pointer (some ⟨g, o, none⟩)) 3)) (.pointer (some ⟨g, o + 3, none⟩)) := Pu.ok fun w => by kernel_rfl
theorem W0 {a : Option Addr} {g o : Nat} (ha : a = some ⟨g, o, none⟩) (len cap : Nat) (k : IntKind) (i : Int) (h0 : 0 ≤ i) (h1 : i < len) : Pu Tryd.prog (xV (Instr.indexAt 36 (.slice a len cap) (.int k i))) (.pointer (some ⟨g, o + i.toNat * 4, none⟩)) := M5 Tryd.underlying36 Tryd.sizeOf89 ha len cap k i h0 h1
theorem a7m {g o : Nat} : Pu Tryd.prog (xV (Instr.fieldAt 89 (.pointer (some ⟨g, o, none⟩)) 0)) (.pointer (some ⟨g, o + 0, none⟩)) := Pu.ok fun w => by kernel_rfl
theorem a0T {g o : Nat} : Pu Tryd.prog (xV (Instr.fieldAt 89 (.pointer (some ⟨g, o, none⟩)) 3)) (.pointer (some ⟨g, o + 3, none⟩)) := Pu.ok fun w => by kernel_rfl
theorem a5p {g o : Nat} : Pu Tryd.prog (xV (Instr.fieldAt 89 (.pointer (some ⟨g, o, none⟩)) 2)) (.pointer (some ⟨g, o + 2, none⟩)) := Pu.ok fun w => by kernel_rfl
theorem a3U {g o : Nat} : Pu Tryd.prog (xV (Instr.fieldAt 89 (.pointer (some ⟨g, o, none⟩)) 1)) (.pointer (some ⟨g, o + 1, none⟩)) := Pu.ok fun w => by kernel_rfl
theorem a1C {g o : Nat} : Pu Tryd.prog (xV (Instr.fieldAt 46 (.pointer (some ⟨g, o, none⟩)) 5)) (.pointer (some ⟨g, o + 5, none⟩)) := Pu.ok fun w => by kernel_rfl
theorem a7n {g o : Nat} : Pu Tryd.prog (xV (Instr.fieldAt 30 (.pointer (some ⟨g, o, none⟩)) 2)) (.pointer (some ⟨g, o + 2, none⟩)) := Pu.ok fun w => by kernel_rfl
theorem a2Y {g o : Nat} : Pu Tryd.prog (xV (Instr.fieldAt 35 (.pointer (some ⟨g, o, none⟩)) 1)) (.pointer (some ⟨g, o + 1, none⟩)) := Pu.ok fun w => by kernel_rfl
theorem b3t (a0_0a : Option Addr) (a0_0n a0_0c : Nat) (a0h : Int) (a0_2a : Option Addr) (a0_2n a0_2c : Nat) (b1O : Int) (b1P : Int) (a0_5a : Option Addr) (a0_5n a0_5c : Nat) : Pu Tryd.prog (xV (Instr.build 71 #[(0, (Value.agg #[(Value.slice a0_0a a0_0n a0_0c), (Value.int .i64 a0h), (Value.slice a0_2a a0_2n a0_2c), (Value.int .i64 b1O), (Value.int .i64 b1P), (Value.slice a0_5a a0_5n a0_5c)]))])) (.agg #[(Value.slice a0_0a a0_0n a0_0c), (Value.int .i64 a0h), (Value.slice a0_2a a0_2n a0_2c), (Value.int .i64 b1O), (Value.int .i64 b1P), (Value.slice a0_5a a0_5n a0_5c)]) := Pu.ok fun w => by kernel_rfl
theorem b9w : Tryd.prog.info? 28 = some ((Tryd.prog.info? 28).getD default) := by kernel_rfl
theorem b9x {E : Pan} {w0 w : World} {ps : Nat → Prop} {H0 H : Hp} {Fs : List Frag} {K : Value → World → Prop} {kl kc : IntKind} {n : Int} (I : Inv w0 ps H0 H Fs w) (hn : 0 ≤ n) (hb : n * 25 ≤ 140737488355328) (h : ∀ (s' : Sl) (F' : Frag) (w' : World), RowL 28 1 csl s' (List.replicate n.toNat (Sl.mk none 0 0)) F' → Inv w0 ps H0 H (F' :: Fs) w' → (∀ k, k < w.heap.size → w'.heap[k]? = w.heap[k]?) → K (.slice s'.a s'.n s'.c) w') : opK Tryd.prog E (xV (Instr.makeSlice 72 (.int kl n) (.int kc n))) w K :=
  b1D (bytes := 24) (x0 := (Sl.mk none 0 0)) Tryd.underlying72 b9w (z := (Value.slice none 0 0)) (by kernel_rfl) (by kernel_rfl) (by kernel_rfl) (by kernel_rfl) I a8F a8G (by decide) kl kc n hn hb h
theorem a9w {a : Option Addr} {g o : Nat} (ha : a = some ⟨g, o, none⟩) (len cap : Nat) (k : IntKind) (i : Int) (h0 : 0 ≤ i) (h1 : i < len) : Pu Tryd.prog (xV (Instr.indexAt 72 (.slice a len cap) (.int k i))) (.pointer (some ⟨g, o + i.toNat * 1, none⟩)) := M5 Tryd.underlying72 Tryd.sizeOf28 ha len cap k i h0 h1
theorem b9y : Tryd.prog.info? 49 = some ((Tryd.prog.info? 49).getD default) := by kernel_rfl
theorem b9z {E : Pan} {w0 w : World} {ps : Nat → Prop} {H0 H : Hp} {Fs : List Frag} {K : Value → World → Prop} {kl kc : IntKind} {n : Int} (I : Inv w0 ps H0 H Fs w) (hn : 0 ≤ n) (hb : n * 25 ≤ 140737488355328) (h : ∀ (s' : Sl) (F' : Frag) (w' : World), RowL 49 1 csl s' (List.replicate n.toNat (Sl.mk none 0 0)) F' → Inv w0 ps H0 H (F' :: Fs) w' → (∀ k, k < w.heap.size → w'.heap[k]? = w.heap[k]?) → K (.slice s'.a s'.n s'.c) w') : opK Tryd.prog E (xV (Instr.makeSlice 63 (.int kl n) (.int kc n))) w K :=
  b1D (bytes := 24) (x0 := (Sl.mk none 0 0)) Tryd.underlying63 b9y (z := (Value.slice none 0 0)) (by kernel_rfl) (by kernel_rfl) (by kernel_rfl) (by kernel_rfl) I a8F a8G (by decide) kl kc n hn hb h
theorem a7o {g o : Nat} : Pu Tryd.prog (xV (Instr.fieldAt 41 (.pointer (some ⟨g, o, none⟩)) 0)) (.pointer (some ⟨g, o + 0, none⟩)) := Pu.ok fun w => by kernel_rfl
theorem a3V {g o : Nat} : Pu Tryd.prog (xV (Instr.fieldAt 71 (.pointer (some ⟨g, o, none⟩)) 0)) (.pointer (some ⟨g, o + 0, none⟩)) := Pu.ok fun w => by kernel_rfl
theorem a5q {g o : Nat} : Pu Tryd.prog (xV (Instr.fieldAt 91 (.pointer (some ⟨g, o, none⟩)) 0)) (.pointer (some ⟨g, o + 0, none⟩)) := Pu.ok fun w => by kernel_rfl
theorem a7p {g o : Nat} : Pu Tryd.prog (xV (Instr.fieldAt 91 (.pointer (some ⟨g, o, none⟩)) 1)) (.pointer (some ⟨g, o + 1, none⟩)) := Pu.ok fun w => by kernel_rfl
theorem a9R {g o : Nat} : Pu Tryd.prog (xV (Instr.fieldAt 91 (.pointer (some ⟨g, o, none⟩)) 2)) (.pointer (some ⟨g, o + 2, none⟩)) := Pu.ok fun w => by kernel_rfl
theorem b4f {g o : Nat} : Pu Tryd.prog (xV (Instr.fieldAt 91 (.pointer (some ⟨g, o, none⟩)) 3)) (.pointer (some ⟨g, o + 3, none⟩)) := Pu.ok fun w => by kernel_rfl
theorem a5r {g o : Nat} : Pu Tryd.prog (xV (Instr.fieldAt 91 (.pointer (some ⟨g, o, none⟩)) 4)) (.pointer (some ⟨g, o + 4, none⟩)) := Pu.ok fun w => by kernel_rfl
theorem b4g  : Pu Tryd.prog (xV (Instr.build 103 #[])) (.agg #[(Value.slice none 0 0)]) := Pu.ok fun w => by kernel_rfl
abbrev r5 (x : d5) : List Value := [(Value.string x.fname), (Value.int .i64 x.fas)]
theorem a1Z (x : d5) : (r5 x).length = 2 := rfl
theorem a2b (x : d5) : (r5 x).all (·.oneCell') = true := rfl
theorem T5 {g o : Nat} : Pu Tryd.prog (xV (Instr.fieldAt 103 (.pointer (some ⟨g, o, none⟩)) 0)) (.pointer (some ⟨g, o + 0, none⟩)) := Pu.ok fun w => by kernel_rfl
theorem a2Z (a0 : ByteArray) (a1 : Int) : Pu Tryd.prog (xV (Instr.build 106 #[(0, (Value.string a0)), (1, (Value.int .i64 a1))])) (.agg #[(Value.string a0), (Value.int .i64 a1)]) := Pu.ok fun w => by kernel_rfl
theorem a7q (a1p : ByteArray) (a0h : Int) (w : World) : (Instr.buildSlice 101 1 #[(0, (Value.agg #[(Value.string a1p), (Value.int .i64 a0h)]))]).run Tryd.prog w = .ok (.slice (some ⟨w.heap.size, 0, none⟩) 1 1) (w.alloc (.cells [(Value.string a1p), (Value.int .i64 a0h)].toArray 106)) := by kernel_rfl
theorem b8y : Tryd.prog.info? 106 = some ((Tryd.prog.info? 106).getD default) := by kernel_rfl
theorem a8J {E : Pan} {w0 w : World} {ps : Nat → Prop} {H0 H : Hp} {Fs : List Frag} {K : Value → World → Prop} {s : Sl} {xs : List d5} {F : Frag} {t2 : Sl} {ys : List d5} {ks : List Bool} {ty : TypeId} (I : Inv w0 ps H0 H (F :: Fs) w) (hr : RowL 106 2 r5 s xs F) (hs : SrcO w r5 t2 ys) (hb : (xs.length + ys.length) * 25 ≤ 140737488355328) (h : ∀ (s' : Sl) (F' : Frag) (w' : World), RowL 106 2 r5 s' (xs ++ ys) F' → Inv w0 ps H0 H (F' :: Fs) w' → (∀ k, k < w.heap.size → (∀ p ∈ F, p.1 ≠ k) → w'.heap[k]? = w.heap[k]?) → K (.slice s'.a s'.n s'.c) w') : opK Tryd.prog E (xBuiltin .append #[101, 101] ty ks [.slice s.a s.n s.c, .slice t2.a t2.n t2.c]) w K :=
  a7f (bytes := 24) Tryd.underlying101 b8y (z := (Value.agg #[(Value.string ⟨#[]⟩), (Value.int .i64 0)])) (by kernel_rfl) (by kernel_rfl) (by kernel_rfl) (by kernel_rfl) I hr hs hb h
theorem a4F (a : Option Addr) (n c : Nat) : Pu Tryd.prog (xBuiltin .len #[36] 3 [false] [.slice a n c]) (.int .i64 (n : Int)) := N9 Tryd.underlying36 a n c
theorem b5r {a : Option Addr} {g o : Nat} (ha : a = some ⟨g, o, none⟩) (len cap : Nat) (k : IntKind) (i : Int) (h0 : 0 ≤ i) (h1 : i < len) : Pu Tryd.prog (xV (Instr.indexAt 101 (.slice a len cap) (.int k i))) (.pointer (some ⟨g, o + i.toNat * 2, none⟩)) := M5 Tryd.underlying101 Tryd.sizeOf106 ha len cap k i h0 h1
theorem a6v {g o : Nat} : Pu Tryd.prog (xV (Instr.fieldAt 106 (.pointer (some ⟨g, o, none⟩)) 0)) (.pointer (some ⟨g, o + 0, none⟩)) := Pu.ok fun w => by kernel_rfl
theorem b3u {g o : Nat} : Pu Tryd.prog (xV (Instr.fieldAt 106 (.pointer (some ⟨g, o, none⟩)) 1)) (.pointer (some ⟨g, o + 1, none⟩)) := Pu.ok fun w => by kernel_rfl
theorem b3v (x y : Operand) (s : Sl) : Pu Tryd.prog (xBin .eql 27 x y (vs s) (.slice none 0 0)) (.bool s.a.isNone) := b5g _ _ _ s Tryd.underlying27
theorem b8z  (w : World) : (Instr.buildSlice 27 0 #[]).run Tryd.prog w = .ok (.slice (some ⟨w.heap.size, 0, none⟩) 0 0) (w.alloc (.cells [].toArray 35)) := by kernel_rfl
theorem b9A : Tryd.prog.info? 35 = some ((Tryd.prog.info? 35).getD default) := by kernel_rfl
theorem b9B {E : Pan} {w0 w : World} {ps : Nat → Prop} {H0 H : Hp} {Fs : List Frag} {K : Value → World → Prop} {s : Sl} {xs : List i7} {F : Frag} {t2 : Sl} {ys : List i7} {ks : List Bool} {ty : TypeId} (I : Inv w0 ps H0 H (F :: Fs) w) (hr : RowL 35 2 g9 s xs F) (hs : SrcO w g9 t2 ys) (hb : (xs.length + ys.length) * 25 ≤ 140737488355328) (h : ∀ (s' : Sl) (F' : Frag) (w' : World), RowL 35 2 g9 s' (xs ++ ys) F' → Inv w0 ps H0 H (F' :: Fs) w' → (∀ k, k < w.heap.size → (∀ p ∈ F, p.1 ≠ k) → w'.heap[k]? = w.heap[k]?) → K (.slice s'.a s'.n s'.c) w') : opK Tryd.prog E (xBuiltin .append #[27, 27] ty ks [.slice s.a s.n s.c, .slice t2.a t2.n t2.c]) w K :=
  a7f (bytes := 24) Tryd.underlying27 b9A (z := (Value.agg #[(Value.string ⟨#[]⟩), (Value.int .i64 0)])) (by kernel_rfl) (by kernel_rfl) (by kernel_rfl) (by kernel_rfl) I hr hs hb h
theorem a6k (a0 : Int) (a1 : Int) (a2 : Int) (a3 : Int) (a4 : Int) (b1I : Int) (b1J : Int) (b1K : Int) (b1L : Int) : Pu Tryd.prog (xV (Instr.build 46 #[(0, (Value.int .i64 a0)), (1, (Value.int .i64 a1)), (2, (Value.int .i64 a2)), (3, (Value.int .i64 a3)), (4, (Value.int .i64 a4)), (6, (Value.agg #[(Value.int .i64 b1I), (Value.int .i64 b1J)])), (7, (Value.agg #[(Value.int .i64 b1K), (Value.int .i64 b1L)]))])) (.agg #[(Value.int .i64 a0), (Value.int .i64 a1), (Value.int .i64 a2), (Value.int .i64 a3), (Value.int .i64 a4), (Value.int .i64 0), (Value.int .i64 b1I), (Value.int .i64 b1J), (Value.int .i64 b1K), (Value.int .i64 b1L)]) := Pu.ok fun w => by kernel_rfl
theorem b3w (a3 : Bool) : Pu Tryd.prog (xV (Instr.build 91 #[(3, (Value.bool a3))])) (.agg #[(Value.bool false), (Value.bool false), (Value.bool false), (Value.bool a3), (Value.bool false)]) := Pu.ok fun w => by kernel_rfl
theorem b3x (a0 : Bool) : Pu Tryd.prog (xV (Instr.build 91 #[(0, (Value.bool a0))])) (.agg #[(Value.bool a0), (Value.bool false), (Value.bool false), (Value.bool false), (Value.bool false)]) := Pu.ok fun w => by kernel_rfl
theorem b5s  : Pu Tryd.prog (xV (Instr.build 91 #[])) (.agg #[(Value.bool false), (Value.bool false), (Value.bool false), (Value.bool false), (Value.bool false)]) := Pu.ok fun w => by kernel_rfl
theorem b4h {g o : Nat} : Pu Tryd.prog (xV (Instr.fieldAt 44 (.pointer (some ⟨g, o, none⟩)) 1)) (.pointer (some ⟨g, o + 1, none⟩)) := Pu.ok fun w => by kernel_rfl
theorem a5M (a0 a1 a2 a3 a4 a5 a6 : Int) : Pu Tryd.prog (xV (Instr.build 114 #[(0, .int .i64 a0), (1, .int .i64 a1), (2, .int .i64 a2), (3, .int .i64 a3), (4, .int .i64 a4), (5, .int .i64 a5), (6, .int .i64 a6)])) (.agg #[.int .i64 a0, .int .i64 a1, .int .i64 a2, .int .i64 a3, .int .i64 a4, .int .i64 a5, .int .i64 a6]) := Pu.ok fun w => by kernel_rfl
theorem b4i (a0 a1 a2 a3 a4 a5 a6 : Int) (k : IntKind) (i : Int) (h0 : 0 ≤ i) (h1 : i < 7) : Pu Tryd.prog (xV (Instr.index 114 (.agg #[.int .i64 a0, .int .i64 a1, .int .i64 a2, .int .i64 a3, .int .i64 a4, .int .i64 a5, .int .i64 a6]) (.int k i))) (.int .i64 (([a0, a1, a2, a3, a4, a5, a6] : List Int).getD i.toNat 0)) := by
  obtain rfl | rfl | rfl | rfl | rfl | rfl | rfl := (by omega : i = 0 ∨ i = 1 ∨ i = 2 ∨ i = 3 ∨ i = 4 ∨ i = 5 ∨ i = 6)
  · exact Pu.ok fun w => by kernel_rfl
  · exact Pu.ok fun w => by kernel_rfl
  · exact Pu.ok fun w => by kernel_rfl
  · exact Pu.ok fun w => by kernel_rfl
  · exact Pu.ok fun w => by kernel_rfl
  · exact Pu.ok fun w => by kernel_rfl
  · exact Pu.ok fun w => by kernel_rfl
theorem a3A {g o : Nat} : Pu Tryd.prog (xV (Instr.fieldAt 116 (.pointer (some ⟨g, o, none⟩)) 2)) (.pointer (some ⟨g, o + 2, none⟩)) := Pu.ok fun w => by kernel_rfl
theorem b1Q (a0a : Option Addr) (a0n a0c : Nat) (a1a : Option Addr) (a1n a1c : Nat) (w : World) : (Instr.buildSlice 135 2 #[(0, (Value.slice a0a a0n a0c)), (1, (Value.slice a1a a1n a1c))]).run Tryd.prog w = .ok (.slice (some ⟨w.heap.size, 0, none⟩) 2 2) (w.alloc (.cells [(Value.slice a0a a0n a0c), (Value.slice a1a a1n a1c)].toArray 123)) := by kernel_rfl
theorem a4G (a5 a6 a7 a8 a9 a10 a3 a4 : Int) : Pu Tryd.prog (xV (Instr.build 131 #[(5, .int .i64 a5), (6, .int .i64 a6), (7, .int .i64 a7), (8, .int .i64 a8), (9, .int .i64 a9), (10, .int .i64 a10), (3, .int .i64 a3), (4, .int .i64 a4)])) (.agg #[.int .i64 0, .int .i64 0, .int .i64 0, .int .i64 a3, .int .i64 a4, .int .i64 a5, .int .i64 a6, .int .i64 a7, .int .i64 a8, .int .i64 a9, .int .i64 a10]) := Pu.ok fun w => by kernel_rfl
theorem b4j (a0 a1 a2 a3 a4 a5 a6 a7 a8 a9 a10 : Int) (k : IntKind) (i : Int) (h0 : 0 ≤ i) (h1 : i < 11) : Pu Tryd.prog (xV (Instr.index 131 (.agg #[.int .i64 a0, .int .i64 a1, .int .i64 a2, .int .i64 a3, .int .i64 a4, .int .i64 a5, .int .i64 a6, .int .i64 a7, .int .i64 a8, .int .i64 a9, .int .i64 a10]) (.int k i))) (.int .i64 (([a0, a1, a2, a3, a4, a5, a6, a7, a8, a9, a10] : List Int).getD i.toNat 0)) := by
  obtain rfl | rfl | rfl | rfl | rfl | rfl | rfl | rfl | rfl | rfl | rfl := (by omega : i = 0 ∨ i = 1 ∨ i = 2 ∨ i = 3 ∨ i = 4 ∨ i = 5 ∨ i = 6 ∨ i = 7 ∨ i = 8 ∨ i = 9 ∨ i = 10)
  · exact Pu.ok fun w => by kernel_rfl
  · exact Pu.ok fun w => by kernel_rfl
  · exact Pu.ok fun w => by kernel_rfl
  · exact Pu.ok fun w => by kernel_rfl
  · exact Pu.ok fun w => by kernel_rfl
  · exact Pu.ok fun w => by kernel_rfl
  · exact Pu.ok fun w => by kernel_rfl
  · exact Pu.ok fun w => by kernel_rfl
  · exact Pu.ok fun w => by kernel_rfl
  · exact Pu.ok fun w => by kernel_rfl
  · exact Pu.ok fun w => by kernel_rfl
theorem b4k  : Pu Tryd.prog (xV (Instr.build 116 #[])) (.agg #[(Value.int .i64 0), (Value.int .i64 0), (Value.int .i64 0), (Value.bool false), (Value.bool false), (Value.slice none 0 0)]) := Pu.ok fun w => by kernel_rfl
theorem a5s (a : Option Addr) (n c : Nat) : Pu Tryd.prog (xBuiltin .len #[123] 3 [false] [.slice a n c]) (.int .i64 (n : Int)) := N9 Tryd.underlying123 a n c
theorem b5t {a : Option Addr} {g o : Nat} (ha : a = some ⟨g, o, none⟩) (len cap : Nat) (k : IntKind) (i : Int) (h0 : 0 ≤ i) (h1 : i < len) : Pu Tryd.prog (xV (Instr.indexAt 123 (.slice a len cap) (.int k i))) (.pointer (some ⟨g, o + i.toNat * 1, none⟩)) := M5 Tryd.underlying123 Tryd.sizeOf126 ha len cap k i h0 h1
theorem a6w {g o : Nat} : Pu Tryd.prog (xV (Instr.fieldAt 116 (.pointer (some ⟨g, o, none⟩)) 0)) (.pointer (some ⟨g, o + 0, none⟩)) := Pu.ok fun w => by kernel_rfl
theorem a9l {g o : Nat} : Pu Tryd.prog (xV (Instr.fieldAt 116 (.pointer (some ⟨g, o, none⟩)) 1)) (.pointer (some ⟨g, o + 1, none⟩)) := Pu.ok fun w => by kernel_rfl
theorem a6x {g o : Nat} : Pu Tryd.prog (xV (Instr.fieldAt 116 (.pointer (some ⟨g, o, none⟩)) 3)) (.pointer (some ⟨g, o + 3, none⟩)) := Pu.ok fun w => by kernel_rfl
theorem a6y {g o : Nat} : Pu Tryd.prog (xV (Instr.fieldAt 116 (.pointer (some ⟨g, o, none⟩)) 4)) (.pointer (some ⟨g, o + 4, none⟩)) := Pu.ok fun w => by kernel_rfl
theorem a6z {g o : Nat} : Pu Tryd.prog (xV (Instr.fieldAt 116 (.pointer (some ⟨g, o, none⟩)) 5)) (.pointer (some ⟨g, o + 5, none⟩)) := Pu.ok fun w => by kernel_rfl
theorem a9S (a : Option Addr) (n c : Nat) : Pu Tryd.prog (xBuiltin .len #[135] 3 [false] [.slice a n c]) (.int .i64 (n : Int)) := N9 Tryd.underlying135 a n c
theorem b0W {a : Option Addr} {g o : Nat} (ha : a = some ⟨g, o, none⟩) (len cap : Nat) (k : IntKind) (i : Int) (h0 : 0 ≤ i) (h1 : i < len) : Pu Tryd.prog (xV (Instr.indexAt 135 (.slice a len cap) (.int k i))) (.pointer (some ⟨g, o + i.toNat * 1, none⟩)) := M5 Tryd.underlying135 Tryd.sizeOf123 ha len cap k i h0 h1
theorem b5u (s : ByteArray) : Pu Tryd.prog (xV (Instr.makeInterface 9 (.string s))) (.iface 9 (.string s)) := Pu.ok fun w => by kernel_rfl
abbrev m8 (x : d2) : List Value := [(A0 x)]
theorem E8 (x : d2) : (m8 x).length = 1 := rfl
theorem J7 (x : d2) : (m8 x).all (·.oneCell') = true := b1i x
theorem b3M : Tryd.prog.info? 126 = some ((Tryd.prog.info? 126).getD default) := by kernel_rfl
theorem a6J {E : Pan} {w0 w : World} {ps : Nat → Prop} {H0 H : Hp} {Fs : List Frag} {K : Value → World → Prop} {s : Sl} {xs : List d2} {F : Frag} {t2 : Sl} {ys : List d2} {ks : List Bool} {ty : TypeId} (I : Inv w0 ps H0 H (F :: Fs) w) (hr : RowL 126 1 m8 s xs F) (hs : SrcO w m8 t2 ys) (hb : (xs.length + ys.length) * 17 ≤ 140737488355328) (h : ∀ (s' : Sl) (F' : Frag) (w' : World), RowL 126 1 m8 s' (xs ++ ys) F' → Inv w0 ps H0 H (F' :: Fs) w' → (∀ k, k < w.heap.size → (∀ p ∈ F, p.1 ≠ k) → w'.heap[k]? = w.heap[k]?) → K (.slice s'.a s'.n s'.c) w') : opK Tryd.prog E (xBuiltin .append #[123, 123] ty ks [.slice s.a s.n s.c, .slice t2.a t2.n t2.c]) w K :=
  a7f (bytes := 16) Tryd.underlying123 b3M (z := Value.nilIface) (by kernel_rfl) (by kernel_rfl) (by kernel_rfl) (by kernel_rfl) I hr hs hb h
theorem b1R (a1p : ByteArray) (a0h : Int) : Pu Tryd.prog (xV (Instr.build 138 #[(0, (Value.agg #[(Value.string a1p), (Value.int .i64 a0h)]))])) (.agg #[(Value.string a1p), (Value.int .i64 a0h)]) := Pu.ok fun w => by kernel_rfl
theorem b0v (x : M7) : Pu Tryd.prog (xV (Instr.makeInterface 138 (.agg #[(Value.string x.P6.g7), (Value.int .i64 x.P6.K0)]))) (A0 (d2.C1 x)) := Pu.ok fun w => rfl
theorem b1S (a1p : Int) (a0h : ByteArray) (a0_2a : Option Addr) (a0_2n a0_2c : Nat) (a0_3a : Option Addr) (a0_3n a0_3c : Nat) (a0_4a : Option Addr) (a0_4n a0_4c : Nat) (a0_5a : Option Addr) (a0_5n a0_5c : Nat) : Pu Tryd.prog (xV (Instr.build 140 #[(0, (Value.agg #[(Value.int .i64 a1p), (Value.string a0h), (Value.slice a0_2a a0_2n a0_2c), (Value.slice a0_3a a0_3n a0_3c), (Value.slice a0_4a a0_4n a0_4c), (Value.slice a0_5a a0_5n a0_5c)]))])) (.agg #[(Value.int .i64 a1p), (Value.string a0h), (Value.slice a0_2a a0_2n a0_2c), (Value.slice a0_3a a0_3n a0_3c), (Value.slice a0_4a a0_4n a0_4c), (Value.slice a0_5a a0_5n a0_5c)]) := Pu.ok fun w => by kernel_rfl
theorem b0w (x : H9) : Pu Tryd.prog (xV (Instr.makeInterface 140 (.agg #[(Value.int .i64 x.d9.d4), (Value.string x.d9.g7), (Value.slice x.d9.i8.a x.d9.i8.n x.d9.i8.c), (Value.slice x.d9.q9.a x.d9.q9.n x.d9.q9.c), (Value.slice x.d9.G9.a x.d9.G9.n x.d9.G9.c), (Value.slice x.d9.H7.a x.d9.H7.n x.d9.H7.c)]))) (A0 (d2.A7 x)) := Pu.ok fun w => rfl
theorem b1j (x : d2) : Pu Tryd.prog (xV (Instr.typeAssert (A0 x) 126 138 true)) (.tuple #[(Value.agg #[(Value.string ((((x.a0b)).P6).g7)), (Value.int .i64 ((((x.a0b)).P6).K0))]), .bool (x.a2S)]) := by
  cases x <;> exact Pu.ok fun w => by kernel_rfl
theorem a6A {g o : Nat} : Pu Tryd.prog (xV (Instr.fieldAt 138 (.pointer (some ⟨g, o, none⟩)) 0)) (.pointer (some ⟨g, o + 0, none⟩)) := Pu.ok fun w => by kernel_rfl
theorem b1k (x : d2) : Pu Tryd.prog (xV (Instr.typeAssert (A0 x) 126 140 true)) (.tuple #[(Value.agg #[(Value.int .i64 ((((x.o6)).d9).d4)), (Value.string ((((x.o6)).d9).g7)), (Value.slice ((((x.o6)).d9).i8).a ((((x.o6)).d9).i8).n ((((x.o6)).d9).i8).c), (Value.slice ((((x.o6)).d9).q9).a ((((x.o6)).d9).q9).n ((((x.o6)).d9).q9).c), (Value.slice ((((x.o6)).d9).G9).a ((((x.o6)).d9).G9).n ((((x.o6)).d9).G9).c), (Value.slice ((((x.o6)).d9).H7).a ((((x.o6)).d9).H7).n ((((x.o6)).d9).H7).c)]), .bool (x.a2T)]) := by
  cases x <;> exact Pu.ok fun w => by kernel_rfl
theorem D3 {g o : Nat} : Pu Tryd.prog (xV (Instr.fieldAt 140 (.pointer (some ⟨g, o, none⟩)) 0)) (.pointer (some ⟨g, o + 0, none⟩)) := Pu.ok fun w => by kernel_rfl
theorem b1l (x : d2) : Pu Tryd.prog (xV (Instr.typeAssert (A0 x) 126 146 true)) (.tuple #[(Value.agg #[(Value.int .i64 ((((x.A4)).o0).d4)), (Value.int .i64 ((((x.A4)).o0).p6)), (Value.string ((((x.A4)).o0).g7)), (Value.slice ((((x.A4)).o0).z7).a ((((x.A4)).o0).z7).n ((((x.A4)).o0).z7).c)]), .bool (x.a2U)]) := by
  cases x <;> exact Pu.ok fun w => by kernel_rfl
theorem Q5 {g o : Nat} : Pu Tryd.prog (xV (Instr.fieldAt 146 (.pointer (some ⟨g, o, none⟩)) 0)) (.pointer (some ⟨g, o + 0, none⟩)) := Pu.ok fun w => by kernel_rfl
theorem b1T {a : Option Addr} {g o : Nat} (ha : a = some ⟨g, o, none⟩) (len cap : Nat) (k : IntKind) (i : Int) (h0 : 0 ≤ i) (h1 : i < len) : Pu Tryd.prog (xV (Instr.indexAt 26 (.slice a len cap) (.int k i))) (.pointer (some ⟨g, o + i.toNat * 1, none⟩)) := M5 Tryd.underlying26 Tryd.sizeOf9 ha len cap k i h0 h1
theorem a0d (a0 : Int) (a1 : Int) : Pu Tryd.prog (xV (Instr.build 175 #[(0, (Value.int .i64 a0)), (1, (Value.int .i64 a1))])) (.agg #[(Value.int .i64 a0), (Value.int .i64 a1)]) := Pu.ok fun w => by kernel_rfl
theorem b8A (d : Nat) (a0 b0 : Int) (a1 b1 : Int) (w : World) : (Op.equalIn (d + 2) 175 (.agg #[(Value.int .i64 a0), (Value.int .i64 a1)]) (.agg #[(Value.int .i64 b0), (Value.int .i64 b1)])).run Tryd.prog w = .ok (decide (a0 = b0 ∧ a1 = b1)) w := by
  have u3 := Tryd.underlying3
  have i3 := Tryd.isAgg3
  have s3 := Tryd.sizeOf3
  have hS : Tryd.prog.underlying 175 = some (.struct (Tryd.prog.fieldsOf 175)) := by kernel_rfl
  rw [run_equalIn_agg w (d + 1) 175 _ _ hS (by kernel_rfl)]
  simp only [Program.fieldsOf, Tryd.underlying175]
  go_simp
  try simp only [a7e]
  by_cases h0 : a0 = b0
  · by_cases h1 : a1 = b1
    · simp [h0, h1]
    · simp [h0, h1]
  · simp [h0]
theorem a3M (x y : Operand) (a0 b0 : Int) (a1 b1 : Int) : Pu Tryd.prog (xBin .eql 175 x y (.agg #[(Value.int .i64 a0), (Value.int .i64 a1)]) (.agg #[(Value.int .i64 b0), (Value.int .i64 b1)])) (.bool (decide (a0 = b0 ∧ a1 = b1))) := by
  refine Pu.ok (s := do eqGuard .eql 175 x y (.agg #[(Value.int .i64 a0), (Value.int .i64 a1)]) (.agg #[(Value.int .i64 b0), (Value.int .i64 b1)]); binOp .eql 175 (.agg #[(Value.int .i64 a0), (Value.int .i64 a1)]) (.agg #[(Value.int .i64 b0), (Value.int .i64 b1)])) fun w => ?_
  rw [Sem.run_bind, run_eqGuard_agg w _ _ _ _ _ _ (by kernel_rfl), Result.andThen_ok, run_eql_struct, show (10000 : Nat) = 9998 + 2 from rfl, b8A]
  rfl
theorem b4l  : Pu Tryd.prog (xV (Instr.build 175 #[])) (.agg #[(Value.int .i64 0), (Value.int .i64 0)]) := Pu.ok fun w => by kernel_rfl
theorem b6P (a0a : Option Addr) (a0n a0c : Nat) (a1a : Option Addr) (a1n a1c : Nat) (a2a : Option Addr) (a2n a2c : Nat) (a3a : Option Addr) (a3n a3c : Nat) (w : World) : (Instr.buildSlice 135 4 #[(0, (Value.slice a0a a0n a0c)), (1, (Value.slice a1a a1n a1c)), (2, (Value.slice a2a a2n a2c)), (3, (Value.slice a3a a3n a3c))]).run Tryd.prog w = .ok (.slice (some ⟨w.heap.size, 0, none⟩) 4 4) (w.alloc (.cells [(Value.slice a0a a0n a0c), (Value.slice a1a a1n a1c), (Value.slice a2a a2n a2c), (Value.slice a3a a3n a3c)].toArray 123)) := by kernel_rfl
theorem b1U (a1p : Int) (a0h : Int) (a0_2a : Option Addr) (a0_2n a0_2c : Nat) (a0_3a : Option Addr) (a0_3n a0_3c : Nat) : Pu Tryd.prog (xV (Instr.build 181 #[(0, (Value.agg #[(Value.int .i64 a1p), (Value.int .i64 a0h), (Value.slice a0_2a a0_2n a0_2c), (Value.slice a0_3a a0_3n a0_3c)]))])) (.agg #[(Value.int .i64 a1p), (Value.int .i64 a0h), (Value.slice a0_2a a0_2n a0_2c), (Value.slice a0_3a a0_3n a0_3c)]) := Pu.ok fun w => by kernel_rfl
theorem b0x (x : I0) : Pu Tryd.prog (xV (Instr.makeInterface 181 (.agg #[(Value.int .i64 x.m4.d4), (Value.int .i64 x.m4.fOp), (Value.slice x.m4.i8.a x.m4.i8.n x.m4.i8.c), (Value.slice x.m4.r9.a x.m4.r9.n x.m4.r9.c)]))) (A0 (d2.C8 x)) := Pu.ok fun w => rfl
theorem b1V (a1p : Int) (a0h : Int) (b1N : ByteArray) (a0_3a : Option Addr) (a0_3n a0_3c : Nat) : Pu Tryd.prog (xV (Instr.build 146 #[(0, (Value.agg #[(Value.int .i64 a1p), (Value.int .i64 a0h), (Value.string b1N), (Value.slice a0_3a a0_3n a0_3c)]))])) (.agg #[(Value.int .i64 a1p), (Value.int .i64 a0h), (Value.string b1N), (Value.slice a0_3a a0_3n a0_3c)]) := Pu.ok fun w => by kernel_rfl
theorem a6K (x : C7) : Pu Tryd.prog (xV (Instr.makeInterface 146 (.agg #[(Value.int .i64 x.o0.d4), (Value.int .i64 x.o0.p6), (Value.string x.o0.g7), (Value.slice x.o0.z7.a x.o0.z7.n x.o0.z7.c)]))) (A0 (d2.z8 x)) := Pu.ok fun w => rfl
theorem T6 {g o : Nat} : Pu Tryd.prog (xV (Instr.fieldAt 181 (.pointer (some ⟨g, o, none⟩)) 0)) (.pointer (some ⟨g, o + 0, none⟩)) := Pu.ok fun w => by kernel_rfl
theorem a3b (a0 : Int) (a1 : Int) : Pu Tryd.prog (xV (Instr.build 184 #[(0, (Value.int .i64 a0)), (1, (Value.int .i64 a1))])) (.agg #[(Value.int .i64 a0), (Value.int .i64 a1)]) := Pu.ok fun w => by kernel_rfl
theorem b8B (d : Nat) (a0 b0 : Int) (a1 b1 : Int) (w : World) : (Op.equalIn (d + 2) 184 (.agg #[(Value.int .i64 a0), (Value.int .i64 a1)]) (.agg #[(Value.int .i64 b0), (Value.int .i64 b1)])).run Tryd.prog w = .ok (decide (a0 = b0 ∧ a1 = b1)) w := by
  have u3 := Tryd.underlying3
  have i3 := Tryd.isAgg3
  have s3 := Tryd.sizeOf3
  have hS : Tryd.prog.underlying 184 = some (.struct (Tryd.prog.fieldsOf 184)) := by kernel_rfl
  rw [run_equalIn_agg w (d + 1) 184 _ _ hS (by kernel_rfl)]
  simp only [Program.fieldsOf, Tryd.underlying184]
  go_simp
  try simp only [a7e]
  by_cases h0 : a0 = b0
  · by_cases h1 : a1 = b1
    · simp [h0, h1]
    · simp [h0, h1]
  · simp [h0]
theorem a6p (x y : Operand) (a0 b0 : Int) (a1 b1 : Int) : Pu Tryd.prog (xBin .eql 184 x y (.agg #[(Value.int .i64 a0), (Value.int .i64 a1)]) (.agg #[(Value.int .i64 b0), (Value.int .i64 b1)])) (.bool (decide (a0 = b0 ∧ a1 = b1))) := by
  refine Pu.ok (s := do eqGuard .eql 184 x y (.agg #[(Value.int .i64 a0), (Value.int .i64 a1)]) (.agg #[(Value.int .i64 b0), (Value.int .i64 b1)]); binOp .eql 184 (.agg #[(Value.int .i64 a0), (Value.int .i64 a1)]) (.agg #[(Value.int .i64 b0), (Value.int .i64 b1)])) fun w => ?_
  rw [Sem.run_bind, run_eqGuard_agg w _ _ _ _ _ _ (by kernel_rfl), Result.andThen_ok, run_eql_struct, show (10000 : Nat) = 9998 + 2 from rfl, b8B]
  rfl
theorem b4m  : Pu Tryd.prog (xV (Instr.build 184 #[])) (.agg #[(Value.int .i64 0), (Value.int .i64 0)]) := Pu.ok fun w => by kernel_rfl
theorem a7r (a0 : d2) (w : World) : (Instr.buildSlice 123 1 #[(0, (A0 a0))]).run Tryd.prog w = .ok (.slice (some ⟨w.heap.size, 0, none⟩) 1 1) (w.alloc (.cells [(A0 a0)].toArray 126)) := by cases a0 <;> kernel_rfl
abbrev p9 (x : m6) : List Value := [(Value.slice x.a1o.a x.a1o.n x.a1o.c), (Value.slice x.a1w.a x.a1w.n x.a1w.c)]
abbrev j6 (x : m0) : List Value := [(Value.slice x.p7.a x.p7.n x.p7.c), (Value.int .i64 x.r8), (Value.slice x.m9.a x.m9.n x.m9.c), (Value.int .i64 x.f4), (Value.int .i64 x.s7), (Value.slice x.v7.a x.v7.n x.v7.c)]
abbrev j9 (x : i5) : List Value := [(Value.int .i64 x.s8), (Value.int .i64 x.p6)]
abbrev l7 (x : o9) : List Value := [(Value.int .i64 x.d4), (Value.int .i64 x.fOp), (Value.slice x.i8.a x.i8.n x.i8.c), (Value.slice x.r9.a x.r9.n x.r9.c)]
abbrev a3W (x : f3) : List Value := [(Value.bool x.fdst), (Value.bool x.farr), (Value.bool x.fop), (Value.bool x.fa), (Value.bool x.fb)]
abbrev a6L (x : i4) : List Value := [(Value.int .i64 x.fnodes), (Value.int .i64 x.fdepth), (Value.int .i64 x.fe), (Value.bool x.fform), (Value.bool x.fnamed), (Value.slice x.fnames.a x.fnames.n x.fnames.c)]
end Go.Proofs.YtaokfhdinhimfaaDoor
