/- Single operations at this program's types, and its structures; printed by lift.py. -/
import Derived.KernelRfl
import Derived.Laws.StructEq
import Derived.Laws.Cover2
import Derived.Test.YthklmeihgmcljaaGreatDoorzTS5
import Derived.Test.YthklmeihgmcljaaGreatDoorzTGz
namespace Go.Proofs.YthklmeihgmcljaaGreatDoor
open Go.RowKit
set_option maxRecDepth 100000
set_option maxHeartbeats 2000000
structure l7 where
  a1U : Sl
  a0J : Sl
structure b8 where
  D9 : Int
  L6 : Int
structure b9 where
  c8 : Int
  J5 : Int
  o9 : ByteArray
  P7 : Sl
structure f8 where
  c8 : Int
  fOp : Int
  m7 : Sl
  E4 : Sl
structure g5 where
  c8 : Int
  o9 : ByteArray
  m7 : Sl
  A6 : Sl
  L5 : Sl
  I0 : Sl
structure b6 where
  fl : Sl
  fat : Int
  fbad : Int
  fpos : b8
structure b5 where
  c8 : Int
  B6 : ByteArray
  J5 : Int
  fAt : b8
structure k7 where
  o9 : ByteArray
  a0o : Int
structure N4 where
  f0 : ByteArray
  f1 : ByteArray
  f2 : ByteArray
  f3 : ByteArray
  f4 : ByteArray
  f5 : ByteArray
structure m8 where
  fnodes : Int
  fdepth : Int
  fe : Int
  fform : Bool
  fnamed : Bool
  fnames : Sl
structure a8 where
  fl : Sl
  fn : Int
structure c3w where
  fat : b8
  fe : Int
structure b0Q where
  fn : Int
  fdepth : Int
  fbad : Int
structure b0R where
  fok : Bool
  fnames : Bool
structure N0 where
  u4 : b9
structure S9 where
  r9 : f8
structure d7 where
  fs : ByteArray
  fn : Int
  fat : b8
  fl : Sl
structure W0 where
  X0 : k7
structure T0 where
  i8 : g5
structure a0X where
  fsigns : Sl
  fkinds : Sl
  fpart : Value
structure M1 where
  f0 : ByteArray
  f1 : ByteArray
  f2 : ByteArray
  f3 : ByteArray
  f4 : ByteArray
  f5 : ByteArray
  f6 : ByteArray
structure K0 where
  fexprs : Int
  fparts : Int
structure Q0 where
  fexprs : Int
  fconds : Int
abbrev t6 (x : d7) (s0 : Sl) : List Value := [(Value.string x.fs), (vi x.fn), (vi x.fat.D9), (vi x.fat.L6), (vs s0)]
abbrev s7 (x : d7) : d7 := d7.mk x.fs x.fn x.fat (Sl.mk none 0 0)
abbrev a0u (x : m8) (s0 : Sl) : List Value := [(vi x.fnodes), (vi x.fdepth), (vi x.fe), (Value.bool x.fform), (Value.bool x.fnamed), (vs s0)]
abbrev a0b (x : m8) : m8 := m8.mk x.fnodes x.fdepth x.fe x.fform x.fnamed (Sl.mk none 0 0)
inductive d8 where
  | nil
  | G9 (x : N0)
  | N2 (x : S9)
  | M3 (x : W0)
  | J0 (x : T0)
def H7 : d8 → Value
  | .nil => .nilIface
  | .G9 x => .iface 141 (.agg #[(Value.int .i64 x.u4.c8), (Value.int .i64 x.u4.J5), (Value.string x.u4.o9), (Value.slice x.u4.P7.a x.u4.P7.n x.u4.P7.c)])
  | .N2 x => .iface 146 (.agg #[(Value.int .i64 x.r9.c8), (Value.int .i64 x.r9.fOp), (Value.slice x.r9.m7.a x.r9.m7.n x.r9.m7.c), (Value.slice x.r9.E4.a x.r9.E4.n x.r9.E4.c)])
  | .M3 x => .iface 175 (.agg #[(Value.string x.X0.o9), (Value.int .i64 x.X0.a0o)])
  | .J0 x => .iface 177 (.agg #[(Value.int .i64 x.i8.c8), (Value.string x.i8.o9), (Value.slice x.i8.m7.a x.i8.m7.n x.i8.m7.c), (Value.slice x.i8.A6.a x.i8.A6.n x.i8.A6.c), (Value.slice x.i8.L5.a x.i8.L5.n x.i8.L5.c), (Value.slice x.i8.I0.a x.i8.I0.n x.i8.I0.c)])
theorem b3E (x : d8) : [H7 x].all (·.oneCell') = true := by cases x <;> rfl
def d8.D4 : d8 → N0
  | .G9 x => x
  | _ => (N0.mk (b9.mk 0 0 ⟨#[]⟩ (Sl.mk none 0 0)))
def d8.a4B : d8 → Bool
  | .G9 _ => true
  | _ => false
def d8.Y5 : d8 → W0
  | .M3 x => x
  | _ => (W0.mk (k7.mk ⟨#[]⟩ 0))
def d8.a4C : d8 → Bool
  | .M3 _ => true
  | _ => false
def d8.s8 : d8 → T0
  | .J0 x => x
  | _ => (T0.mk (g5.mk 0 ⟨#[]⟩ (Sl.mk none 0 0) (Sl.mk none 0 0) (Sl.mk none 0 0) (Sl.mk none 0 0)))
def d8.a4D : d8 → Bool
  | .J0 _ => true
  | _ => false
theorem c3x (d : Nat) (a0 b0 : Int) (a1 b1 : Int) (w : World) : (Op.equalIn (d + 2) 28 (.agg #[(Value.int .i64 a0), (Value.int .i64 a1)]) (.agg #[(Value.int .i64 b0), (Value.int .i64 b1)])).run pG w = .ok (decide (a0 = b0 ∧ a1 = b1)) w := by
  have u3 := Tryz.underlying3
  have i3 := Tryz.isAgg3
  have s3 := Tryz.sizeOf3
  have hS : Tryz.prog.underlying 28 = some (.struct (Tryz.prog.fieldsOf 28)) := by kernel_rfl
  rw [run_equalIn_agg w (d + 1) 28 _ _ hS (by kernel_rfl)]
  simp only [Program.fieldsOf, Tryz.underlying28]
  go_simp
  try simp only [a8B]
  by_cases h0 : a0 = b0
  · by_cases h1 : a1 = b1
    · simp [h0, h1]
    · simp [h0, h1]
  · simp [h0]
theorem b9H (x y : Operand) (a0 b0 : Int) (a1 b1 : Int) : Pu pG (xBin .eql 28 x y (.agg #[(Value.int .i64 a0), (Value.int .i64 a1)]) (.agg #[(Value.int .i64 b0), (Value.int .i64 b1)])) (.bool (decide (a0 = b0 ∧ a1 = b1))) := by
  refine Pu.ok (s := do eqGuard .eql 28 x y (.agg #[(Value.int .i64 a0), (Value.int .i64 a1)]) (.agg #[(Value.int .i64 b0), (Value.int .i64 b1)]); binOp .eql 28 (.agg #[(Value.int .i64 a0), (Value.int .i64 a1)]) (.agg #[(Value.int .i64 b0), (Value.int .i64 b1)])) fun w => ?_
  rw [Sem.run_bind, run_eqGuard_agg w _ _ _ _ _ _ (by kernel_rfl), Result.andThen_ok, run_eql_struct, show (10000 : Nat) = 9998 + 2 from rfl, c3x]
  rfl
theorem a4E {g o : Nat} : Pu pG (xV (Instr.fieldAt 26 (.pointer (some ⟨g, o, none⟩)) 0)) (.pointer (some ⟨g, o + 0, none⟩)) := Pu.ok fun w => by kernel_rfl
theorem a6y (a : Option Addr) (n c : Nat) : Pu pG (xBuiltin .len #[23] 3 [false] [.slice a n c]) (.int .i64 (n : Int)) := a0W Tryz.underlying23 a n c
theorem a2M {g o : Nat} : Pu pG (xV (Instr.fieldAt 26 (.pointer (some ⟨g, o, none⟩)) 1)) (.pointer (some ⟨g, o + 1, none⟩)) := Pu.ok fun w => by kernel_rfl
theorem a3u (a : Option Addr) (n c : Nat) : Pu pG (xBuiltin .len #[24] 3 [false] [.slice a n c]) (.int .i64 (n : Int)) := a0W Tryz.underlying24 a n c
theorem b8j  : Pu pG (xV (Instr.build 28 #[])) (.agg #[(Value.int .i64 0), (Value.int .i64 0)]) := Pu.ok fun w => by kernel_rfl
theorem a5i (s : ByteArray) : Pu pG (xBuiltin .len #[9] 3 [false] [.string s]) (.int .i64 (s.size : Int)) := b7j _ _ s Tryz.underlying9
theorem a9h (a0 : Int) (a1 : Int) : Pu pG (xV (Instr.build 28 #[(0, (Value.int .i64 a0)), (1, (Value.int .i64 a1))])) (.agg #[(Value.int .i64 a0), (Value.int .i64 a1)]) := Pu.ok fun w => by kernel_rfl
theorem a3B {g o : Nat} : Pu pG (xV (Instr.fieldAt 40 (.pointer (some ⟨g, o, none⟩)) 0)) (.pointer (some ⟨g, o + 0, none⟩)) := Pu.ok fun w => by kernel_rfl
theorem a6W {g o : Nat} : Pu pG (xV (Instr.fieldAt 40 (.pointer (some ⟨g, o, none⟩)) 3)) (.pointer (some ⟨g, o + 3, none⟩)) := Pu.ok fun w => by kernel_rfl
theorem a3v (a : Option Addr) (n c : Nat) : Pu pG (xBuiltin .len #[38] 3 [false] [.slice a n c]) (.int .i64 (n : Int)) := a0W Tryz.underlying38 a n c
theorem a8D {a : Option Addr} {g o : Nat} (ha : a = some ⟨g, o, none⟩) (len cap : Nat) (k : IntKind) (i : Int) (h0 : 0 ≤ i) (h1 : i < len) : Pu pG (xV (Instr.indexAt 38 (.slice a len cap) (.int k i))) (.pointer (some ⟨g, o + i.toNat * 4, none⟩)) := a1J Tryz.underlying38 Tryz.sizeOf40 ha len cap k i h0 h1
theorem a6X {g o : Nat} : Pu pG (xV (Instr.fieldAt 40 (.pointer (some ⟨g, o, none⟩)) 1)) (.pointer (some ⟨g, o + 1, none⟩)) := Pu.ok fun w => by kernel_rfl
theorem a6Y {g o : Nat} : Pu pG (xV (Instr.fieldAt 49 (.pointer (some ⟨g, o, none⟩)) 0)) (.pointer (some ⟨g, o + 0, none⟩)) := Pu.ok fun w => by kernel_rfl
theorem a6Z {g o : Nat} : Pu pG (xV (Instr.fieldAt 49 (.pointer (some ⟨g, o, none⟩)) 3)) (.pointer (some ⟨g, o + 3, none⟩)) := Pu.ok fun w => by kernel_rfl
theorem a5n (a : Option Addr) (n c : Nat) : Pu pG (xBuiltin .len #[47] 3 [false] [.slice a n c]) (.int .i64 (n : Int)) := a0W Tryz.underlying47 a n c
theorem a7a {g o : Nat} : Pu pG (xV (Instr.fieldAt 49 (.pointer (some ⟨g, o, none⟩)) 2)) (.pointer (some ⟨g, o + 2, none⟩)) := Pu.ok fun w => by kernel_rfl
theorem a7q {a : Option Addr} {g o : Nat} (ha : a = some ⟨g, o, none⟩) (len cap : Nat) (k : IntKind) (i : Int) (h0 : 0 ≤ i) (h1 : i < len) : Pu pG (xV (Instr.indexAt 24 (.slice a len cap) (.int k i))) (.pointer (some ⟨g, o + i.toNat * 6, none⟩)) := a1J Tryz.underlying24 Tryz.sizeOf56 ha len cap k i h0 h1
theorem a0K {g o : Nat} : Pu pG (xV (Instr.fieldAt 56 (.pointer (some ⟨g, o, none⟩)) 2)) (.pointer (some ⟨g, o + 2, none⟩)) := Pu.ok fun w => by kernel_rfl
theorem b7p {g o : Nat} : Pu pG (xV (Instr.fieldAt 66 (.pointer (some ⟨g, o, none⟩)) 2)) (.pointer (some ⟨g, o + 2, none⟩)) := Pu.ok fun w => by kernel_rfl
theorem b7q {g o : Nat} : Pu pG (xV (Instr.fieldAt 66 (.pointer (some ⟨g, o, none⟩)) 0)) (.pointer (some ⟨g, o + 0, none⟩)) := Pu.ok fun w => by kernel_rfl
theorem a3C {g o : Nat} : Pu pG (xV (Instr.fieldAt 66 (.pointer (some ⟨g, o, none⟩)) 1)) (.pointer (some ⟨g, o + 1, none⟩)) := Pu.ok fun w => by kernel_rfl
theorem b4c {a : Option Addr} {g o : Nat} (ha : a = some ⟨g, o, none⟩) (len cap : Nat) (k : IntKind) (i : Int) (h0 : 0 ≤ i) (h1 : i < len) : Pu pG (xV (Instr.indexAt 61 (.slice a len cap) (.int k i))) (.pointer (some ⟨g, o + i.toNat * 5, none⟩)) := a1J Tryz.underlying61 Tryz.sizeOf103 ha len cap k i h0 h1
theorem a0L {g o : Nat} : Pu pG (xV (Instr.fieldAt 103 (.pointer (some ⟨g, o, none⟩)) 0)) (.pointer (some ⟨g, o + 0, none⟩)) := Pu.ok fun w => by kernel_rfl
theorem S3 {g o : Nat} : Pu pG (xV (Instr.fieldAt 103 (.pointer (some ⟨g, o, none⟩)) 1)) (.pointer (some ⟨g, o + 1, none⟩)) := Pu.ok fun w => by kernel_rfl
theorem a9A {a0 a1 a2 a3 a4 : Value} : Pu pG (xV (Instr.field 103 (.agg #[a0, a1, a2, a3, a4]) 3)) (.agg #[a3, a4]) := Pu.ok fun w => by kernel_rfl
theorem b5J (a0 : ByteArray) : Pu pG (xV (Instr.build 68 #[(0, (Value.string a0))])) (.agg #[(Value.string a0), (Value.int .i64 0)]) := Pu.ok fun w => by kernel_rfl
theorem a6q {g o : Nat} : Pu pG (xV (Instr.fieldAt 103 (.pointer (some ⟨g, o, none⟩)) 2)) (.pointer (some ⟨g, o + 2, none⟩)) := Pu.ok fun w => by kernel_rfl
theorem a8E {g o : Nat} : Pu pG (xV (Instr.fieldAt 68 (.pointer (some ⟨g, o, none⟩)) 1)) (.pointer (some ⟨g, o + 1, none⟩)) := Pu.ok fun w => by kernel_rfl
abbrev y3 (x : k7) : List Value := [(Value.string x.o9), (Value.int .i64 x.a0o)]
theorem a9i (x : k7) : (y3 x).length = 2 := rfl
theorem a9j (x : k7) : (y3 x).all (·.oneCell') = true := rfl
theorem c1v (V7 : ByteArray) (V8 : Int) (w : World) : (Instr.buildSlice 23 1 #[(0, (Value.agg #[(Value.string V7), (Value.int .i64 V8)]))]).run pG w = .ok (.slice (some ⟨w.heap.size, 0, none⟩) 1 1) (w.alloc (.cells [(Value.string V7), (Value.int .i64 V8)].toArray 68)) := by kernel_rfl
theorem c3y : Tryz.prog.info? 68 = some ((Tryz.prog.info? 68).getD default) := by kernel_rfl
theorem c3z {E : Pan} {w0 w : World} {ps : Nat → Prop} {H0 H : Hp} {Fs : List Frag} {K : Value → World → Prop} {s : Sl} {xs : List k7} {F : Frag} {t2 : Sl} {ys : List k7} {ks : List Bool} {ty : TypeId} (I : Inv w0 ps H0 H (F :: Fs) w) (hr : RowL 68 2 y3 s xs F) (hs : SrcO w y3 t2 ys) (hb : (xs.length + ys.length) * 25 ≤ 140737488355328) (h : ∀ (s' : Sl) (F' : Frag) (w' : World), RowL 68 2 y3 s' (xs ++ ys) F' → Inv w0 ps H0 H (F' :: Fs) w' → (∀ k, k < w.heap.size → (∀ p ∈ F, p.1 ≠ k) → w'.heap[k]? = w.heap[k]?) → K (.slice s'.a s'.n s'.c) w') : opK pG E (xBuiltin .append #[23, 23] ty ks [.slice s.a s.n s.c, .slice t2.a t2.n t2.c]) w K :=
  a9T (bytes := 24) Tryz.underlying23 c3y (z := (Value.agg #[(Value.string ⟨#[]⟩), (Value.int .i64 0)])) (by kernel_rfl) (by kernel_rfl) (by kernel_rfl) (by kernel_rfl) I hr hs hb h
theorem a5E {a0 a1 a2 a3 a4 : Value} : Pu pG (xV (Instr.field 103 (.agg #[a0, a1, a2, a3, a4]) 0)) a0 := Pu.ok fun w => by kernel_rfl
theorem b0C (a0 : Int) : Pu pG (xV (Instr.build 49 #[(0, (Value.int .i64 a0))])) (.agg #[(Value.int .i64 a0), (Value.int .i64 0), (Value.slice none 0 0), (Value.slice none 0 0)]) := Pu.ok fun w => by kernel_rfl
abbrev g8 (x : f8) : List Value := [(Value.int .i64 x.c8), (Value.int .i64 x.fOp), (Value.slice x.m7.a x.m7.n x.m7.c), (Value.slice x.E4.a x.E4.n x.E4.c)]
theorem T3 (x : f8) : (g8 x).length = 4 := rfl
theorem T4 (x : f8) : (g8 x).all (·.oneCell') = true := rfl
theorem a8k (V7 : Int) (V8 : Int) (a0_2a : Option Addr) (a0_2n a0_2c : Nat) (a0_3a : Option Addr) (a0_3n a0_3c : Nat) (w : World) : (Instr.buildSlice 47 1 #[(0, (Value.agg #[(Value.int .i64 V7), (Value.int .i64 V8), (Value.slice a0_2a a0_2n a0_2c), (Value.slice a0_3a a0_3n a0_3c)]))]).run pG w = .ok (.slice (some ⟨w.heap.size, 0, none⟩) 1 1) (w.alloc (.cells [(Value.int .i64 V7), (Value.int .i64 V8), (Value.slice a0_2a a0_2n a0_2c), (Value.slice a0_3a a0_3n a0_3c)].toArray 49)) := by kernel_rfl
theorem a5d (a0 : Int) (a3a : Option Addr) (a3n a3c : Nat) : Pu pG (xV (Instr.build 49 #[(0, (Value.int .i64 a0)), (3, (Value.slice a3a a3n a3c))])) (.agg #[(Value.int .i64 a0), (Value.int .i64 0), (Value.slice none 0 0), (Value.slice a3a a3n a3c)]) := Pu.ok fun w => by kernel_rfl
abbrev d9 (x : b9) : List Value := [(Value.int .i64 x.c8), (Value.int .i64 x.J5), (Value.string x.o9), (Value.slice x.P7.a x.P7.n x.P7.c)]
theorem O6 (x : b9) : (d9 x).length = 4 := rfl
theorem O7 (x : b9) : (d9 x).all (·.oneCell') = true := rfl
theorem a9V (V7 : Int) (V8 : Int) (a7r : ByteArray) (a0_3a : Option Addr) (a0_3n a0_3c : Nat) (w : World) : (Instr.buildSlice 38 1 #[(0, (Value.agg #[(Value.int .i64 V7), (Value.int .i64 V8), (Value.string a7r), (Value.slice a0_3a a0_3n a0_3c)]))]).run pG w = .ok (.slice (some ⟨w.heap.size, 0, none⟩) 1 1) (w.alloc (.cells [(Value.int .i64 V7), (Value.int .i64 V8), (Value.string a7r), (Value.slice a0_3a a0_3n a0_3c)].toArray 40)) := by kernel_rfl
theorem a5e (a0 : Int) (a3a : Option Addr) (a3n a3c : Nat) : Pu pG (xV (Instr.build 40 #[(0, (Value.int .i64 a0)), (3, (Value.slice a3a a3n a3c))])) (.agg #[(Value.int .i64 a0), (Value.int .i64 0), (Value.string ⟨#[]⟩), (Value.slice a3a a3n a3c)]) := Pu.ok fun w => by kernel_rfl
theorem b5K (a0 : Int) : Pu pG (xV (Instr.build 40 #[(0, (Value.int .i64 a0))])) (.agg #[(Value.int .i64 a0), (Value.int .i64 0), (Value.string ⟨#[]⟩), (Value.slice none 0 0)]) := Pu.ok fun w => by kernel_rfl
theorem b3F (a0 : Int) (a1 : Int) : Pu pG (xV (Instr.build 40 #[(0, (Value.int .i64 a0)), (1, (Value.int .i64 a1))])) (.agg #[(Value.int .i64 a0), (Value.int .i64 a1), (Value.string ⟨#[]⟩), (Value.slice none 0 0)]) := Pu.ok fun w => by kernel_rfl
theorem b1q (a0 : Int) (a2 : ByteArray) (a3a : Option Addr) (a3n a3c : Nat) : Pu pG (xV (Instr.build 40 #[(0, (Value.int .i64 a0)), (2, (Value.string a2)), (3, (Value.slice a3a a3n a3c))])) (.agg #[(Value.int .i64 a0), (Value.int .i64 0), (Value.string a2), (Value.slice a3a a3n a3c)]) := Pu.ok fun w => by kernel_rfl
theorem b3G (a0 : Int) (a2 : ByteArray) : Pu pG (xV (Instr.build 40 #[(0, (Value.int .i64 a0)), (2, (Value.string a2))])) (.agg #[(Value.int .i64 a0), (Value.int .i64 0), (Value.string a2), (Value.slice none 0 0)]) := Pu.ok fun w => by kernel_rfl
theorem a9W (V7 : Int) (V8 : Int) (a7r : ByteArray) (a0_3a : Option Addr) (a0_3n a0_3c : Nat) (b4d : Int) (b4e : Int) (c3A : ByteArray) (a1_3a : Option Addr) (a1_3n a1_3c : Nat) (w : World) : (Instr.buildSlice 38 2 #[(0, (Value.agg #[(Value.int .i64 V7), (Value.int .i64 V8), (Value.string a7r), (Value.slice a0_3a a0_3n a0_3c)])), (1, (Value.agg #[(Value.int .i64 b4d), (Value.int .i64 b4e), (Value.string c3A), (Value.slice a1_3a a1_3n a1_3c)]))]).run pG w = .ok (.slice (some ⟨w.heap.size, 0, none⟩) 2 2) (w.alloc (.cells [(Value.int .i64 V7), (Value.int .i64 V8), (Value.string a7r), (Value.slice a0_3a a0_3n a0_3c), (Value.int .i64 b4d), (Value.int .i64 b4e), (Value.string c3A), (Value.slice a1_3a a1_3n a1_3c)].toArray 40)) := by kernel_rfl
theorem a7Z (a0 a1 a2 a3 a4 a5 : ByteArray) : Pu pG (xV (Instr.build 203 #[(0, .string a0), (1, .string a1), (2, .string a2), (3, .string a3), (4, .string a4), (5, .string a5)])) (.agg #[.string a0, .string a1, .string a2, .string a3, .string a4, .string a5]) := Pu.ok fun w => by kernel_rfl
theorem b1r (a0 : Int) (a1 : Int) (a2a : Option Addr) (a2n a2c : Nat) : Pu pG (xV (Instr.build 49 #[(0, (Value.int .i64 a0)), (1, (Value.int .i64 a1)), (2, (Value.slice a2a a2n a2c))])) (.agg #[(Value.int .i64 a0), (Value.int .i64 a1), (Value.slice a2a a2n a2c), (Value.slice none 0 0)]) := Pu.ok fun w => by kernel_rfl
theorem b2a (V7 : Int) (V8 : Int) (a0_2a : Option Addr) (a0_2n a0_2c : Nat) (a0_3a : Option Addr) (a0_3n a0_3c : Nat) (b4d : Int) (b4e : Int) (a1_2a : Option Addr) (a1_2n a1_2c : Nat) (a1_3a : Option Addr) (a1_3n a1_3c : Nat) (w : World) : (Instr.buildSlice 47 2 #[(0, (Value.agg #[(Value.int .i64 V7), (Value.int .i64 V8), (Value.slice a0_2a a0_2n a0_2c), (Value.slice a0_3a a0_3n a0_3c)])), (1, (Value.agg #[(Value.int .i64 b4d), (Value.int .i64 b4e), (Value.slice a1_2a a1_2n a1_2c), (Value.slice a1_3a a1_3n a1_3c)]))]).run pG w = .ok (.slice (some ⟨w.heap.size, 0, none⟩) 2 2) (w.alloc (.cells [(Value.int .i64 V7), (Value.int .i64 V8), (Value.slice a0_2a a0_2n a0_2c), (Value.slice a0_3a a0_3n a0_3c), (Value.int .i64 b4d), (Value.int .i64 b4e), (Value.slice a1_2a a1_2n a1_2c), (Value.slice a1_3a a1_3n a1_3c)].toArray 49)) := by kernel_rfl
abbrev l8 (x : g5) : List Value := [(Value.int .i64 x.c8), (Value.string x.o9), (Value.slice x.m7.a x.m7.n x.m7.c), (Value.slice x.A6.a x.A6.n x.A6.c), (Value.slice x.L5.a x.L5.n x.L5.c), (Value.slice x.I0.a x.I0.n x.I0.c)]
theorem a5f (x : g5) : (l8 x).length = 6 := rfl
theorem a5g (x : g5) : (l8 x).all (·.oneCell') = true := rfl
theorem b6h (V7 : Int) (V8 : ByteArray) (a0_2a : Option Addr) (a0_2n a0_2c : Nat) (a0_3a : Option Addr) (a0_3n a0_3c : Nat) (a0_4a : Option Addr) (a0_4n a0_4c : Nat) (a0_5a : Option Addr) (a0_5n a0_5c : Nat) (w : World) : (Instr.buildSlice 24 1 #[(0, (Value.agg #[(Value.int .i64 V7), (Value.string V8), (Value.slice a0_2a a0_2n a0_2c), (Value.slice a0_3a a0_3n a0_3c), (Value.slice a0_4a a0_4n a0_4c), (Value.slice a0_5a a0_5n a0_5c)]))]).run pG w = .ok (.slice (some ⟨w.heap.size, 0, none⟩) 1 1) (w.alloc (.cells [(Value.int .i64 V7), (Value.string V8), (Value.slice a0_2a a0_2n a0_2c), (Value.slice a0_3a a0_3n a0_3c), (Value.slice a0_4a a0_4n a0_4c), (Value.slice a0_5a a0_5n a0_5c)].toArray 56)) := by kernel_rfl
theorem c3B : Tryz.prog.info? 56 = some ((Tryz.prog.info? 56).getD default) := by kernel_rfl
theorem b8k {E : Pan} {w0 w : World} {ps : Nat → Prop} {H0 H : Hp} {Fs : List Frag} {K : Value → World → Prop} {s : Sl} {xs : List g5} {F : Frag} {t2 : Sl} {ys : List g5} {ks : List Bool} {ty : TypeId} (I : Inv w0 ps H0 H (F :: Fs) w) (hr : RowL 56 6 l8 s xs F) (hs : SrcO w l8 t2 ys) (hb : (xs.length + ys.length) * 121 ≤ 140737488355328) (h : ∀ (s' : Sl) (F' : Frag) (w' : World), RowL 56 6 l8 s' (xs ++ ys) F' → Inv w0 ps H0 H (F' :: Fs) w' → (∀ k, k < w.heap.size → (∀ p ∈ F, p.1 ≠ k) → w'.heap[k]? = w.heap[k]?) → K (.slice s'.a s'.n s'.c) w') : opK pG E (xBuiltin .append #[24, 24] ty ks [.slice s.a s.n s.c, .slice t2.a t2.n t2.c]) w K :=
  a9T (bytes := 120) Tryz.underlying24 c3B (z := (Value.agg #[(Value.int .i64 0), (Value.string ⟨#[]⟩), (Value.slice none 0 0), (Value.slice none 0 0), (Value.slice none 0 0), (Value.slice none 0 0)])) (by kernel_rfl) (by kernel_rfl) (by kernel_rfl) (by kernel_rfl) I hr hs hb h
theorem a4F {g o : Nat} : Pu pG (xV (Instr.fieldAt 56 (.pointer (some ⟨g, o, none⟩)) 4)) (.pointer (some ⟨g, o + 4, none⟩)) := Pu.ok fun w => by kernel_rfl
theorem a4G {g o : Nat} : Pu pG (xV (Instr.fieldAt 56 (.pointer (some ⟨g, o, none⟩)) 5)) (.pointer (some ⟨g, o + 5, none⟩)) := Pu.ok fun w => by kernel_rfl
theorem X9 {g o : Nat} : Pu pG (xV (Instr.fieldAt 56 (.pointer (some ⟨g, o, none⟩)) 0)) (.pointer (some ⟨g, o + 0, none⟩)) := Pu.ok fun w => by kernel_rfl
theorem c3C : Tryz.prog.info? 40 = some ((Tryz.prog.info? 40).getD default) := by kernel_rfl
theorem b8l {E : Pan} {w0 w : World} {ps : Nat → Prop} {H0 H : Hp} {Fs : List Frag} {K : Value → World → Prop} {s : Sl} {xs : List b9} {F : Frag} {t2 : Sl} {ys : List b9} {ks : List Bool} {ty : TypeId} (I : Inv w0 ps H0 H (F :: Fs) w) (hr : RowL 40 4 d9 s xs F) (hs : SrcO w d9 t2 ys) (hb : (xs.length + ys.length) * 57 ≤ 140737488355328) (h : ∀ (s' : Sl) (F' : Frag) (w' : World), RowL 40 4 d9 s' (xs ++ ys) F' → Inv w0 ps H0 H (F' :: Fs) w' → (∀ k, k < w.heap.size → (∀ p ∈ F, p.1 ≠ k) → w'.heap[k]? = w.heap[k]?) → K (.slice s'.a s'.n s'.c) w') : opK pG E (xBuiltin .append #[38, 38] ty ks [.slice s.a s.n s.c, .slice t2.a t2.n t2.c]) w K :=
  a9T (bytes := 56) Tryz.underlying38 c3C (z := (Value.agg #[(Value.int .i64 0), (Value.int .i64 0), (Value.string ⟨#[]⟩), (Value.slice none 0 0)])) (by kernel_rfl) (by kernel_rfl) (by kernel_rfl) (by kernel_rfl) I hr hs hb h
theorem b5L {g o : Nat} : Pu pG (xV (Instr.fieldAt 103 (.pointer (some ⟨g, o, none⟩)) 3)) (.pointer (some ⟨g, o + 3, none⟩)) := Pu.ok fun w => by kernel_rfl
theorem b0S {a : Option Addr} {g o : Nat} (ha : a = some ⟨g, o, none⟩) (len cap : Nat) (k : IntKind) (i : Int) (h0 : 0 ≤ i) (h1 : i < len) : Pu pG (xV (Instr.indexAt 23 (.slice a len cap) (.int k i))) (.pointer (some ⟨g, o + i.toNat * 2, none⟩)) := a1J Tryz.underlying23 Tryz.sizeOf68 ha len cap k i h0 h1
theorem c3D (d : Nat) (a0 b0 : ByteArray) (a1 b1 : Int) (w : World) : (Op.equalIn (d + 2) 68 (.agg #[(Value.string a0), (Value.int .i64 a1)]) (.agg #[(Value.string b0), (Value.int .i64 b1)])).run pG w = .ok (decide (a0 = b0 ∧ a1 = b1)) w := by
  have u9 := Tryz.underlying9
  have i9 := Tryz.isAgg9
  have s9 := Tryz.sizeOf9
  have u3 := Tryz.underlying3
  have i3 := Tryz.isAgg3
  have s3 := Tryz.sizeOf3
  have hS : Tryz.prog.underlying 68 = some (.struct (Tryz.prog.fieldsOf 68)) := by kernel_rfl
  rw [run_equalIn_agg w (d + 1) 68 _ _ hS (by kernel_rfl)]
  simp only [Program.fieldsOf, Tryz.underlying68]
  go_simp
  try simp only [a8B]
  by_cases h0 : a0 = b0
  · by_cases h1 : a1 = b1
    · simp [h0, h1]
    · simp [h0, h1]
  · simp [h0]
theorem b9I (x y : Operand) (a0 b0 : ByteArray) (a1 b1 : Int) : Pu pG (xBin .neq 68 x y (.agg #[(Value.string a0), (Value.int .i64 a1)]) (.agg #[(Value.string b0), (Value.int .i64 b1)])) (.bool (!decide (a0 = b0 ∧ a1 = b1))) := by
  refine Pu.ok (s := do eqGuard .neq 68 x y (.agg #[(Value.string a0), (Value.int .i64 a1)]) (.agg #[(Value.string b0), (Value.int .i64 b1)]); binOp .neq 68 (.agg #[(Value.string a0), (Value.int .i64 a1)]) (.agg #[(Value.string b0), (Value.int .i64 b1)])) fun w => ?_
  rw [Sem.run_bind, run_eqGuard_agg w _ _ _ _ _ _ (by kernel_rfl), Result.andThen_ok, run_neq_struct, show (10000 : Nat) = 9998 + 2 from rfl, c3D]
  rfl
theorem a5F {g o : Nat} : Pu pG (xV (Instr.fieldAt 79 (.pointer (some ⟨g, o, none⟩)) 2)) (.pointer (some ⟨g, o + 2, none⟩)) := Pu.ok fun w => by kernel_rfl
theorem a7b {g o : Nat} : Pu pG (xV (Instr.fieldAt 40 (.pointer (some ⟨g, o, none⟩)) 2)) (.pointer (some ⟨g, o + 2, none⟩)) := Pu.ok fun w => by kernel_rfl
theorem a5G {g o : Nat} : Pu pG (xV (Instr.fieldAt 49 (.pointer (some ⟨g, o, none⟩)) 1)) (.pointer (some ⟨g, o + 1, none⟩)) := Pu.ok fun w => by kernel_rfl
theorem b0T {a : Option Addr} {g o : Nat} (ha : a = some ⟨g, o, none⟩) (len cap : Nat) (k : IntKind) (i : Int) (h0 : 0 ≤ i) (h1 : i < len) : Pu pG (xV (Instr.indexAt 47 (.slice a len cap) (.int k i))) (.pointer (some ⟨g, o + i.toNat * 4, none⟩)) := a1J Tryz.underlying47 Tryz.sizeOf49 ha len cap k i h0 h1
theorem b5M {g o : Nat} : Pu pG (xV (Instr.fieldAt 101 (.pointer (some ⟨g, o, none⟩)) 0)) (.pointer (some ⟨g, o + 0, none⟩)) := Pu.ok fun w => by kernel_rfl
theorem a2W {g o : Nat} : Pu pG (xV (Instr.fieldAt 101 (.pointer (some ⟨g, o, none⟩)) 1)) (.pointer (some ⟨g, o + 1, none⟩)) := Pu.ok fun w => by kernel_rfl
theorem a9k (V7 : Int) (V8 : Int) (a1 : Int) : Pu pG (xV (Instr.build 98 #[(0, (Value.agg #[(Value.int .i64 V7), (Value.int .i64 V8)])), (1, (Value.int .i64 a1))])) (.agg #[(Value.int .i64 V7), (Value.int .i64 V8), (Value.int .i64 a1)]) := Pu.ok fun w => by kernel_rfl
theorem b0D (c1b : Int) (c1c : Int) (a_1 : Int) : Pu pG (xV (Instr.makeInterface 98 (.agg #[(Value.int .i64 c1b), (Value.int .i64 c1c), (Value.int .i64 a_1)]))) (.iface 98 (.agg #[(Value.int .i64 c1b), (Value.int .i64 c1c), (Value.int .i64 a_1)])) := Pu.ok fun w => by kernel_rfl
theorem b4f {a0 a1 a2 a3 a4 : Value} : Pu pG (xV (Instr.field 103 (.agg #[a0, a1, a2, a3, a4]) 1)) a1 := Pu.ok fun w => by kernel_rfl
theorem b4g {a0 a1 a2 a3 a4 : Value} : Pu pG (xV (Instr.field 103 (.agg #[a0, a1, a2, a3, a4]) 2)) a2 := Pu.ok fun w => by kernel_rfl
theorem a3D {g o : Nat} : Pu pG (xV (Instr.fieldAt 56 (.pointer (some ⟨g, o, none⟩)) 1)) (.pointer (some ⟨g, o + 1, none⟩)) := Pu.ok fun w => by kernel_rfl
abbrev K2 (x : ByteArray) : List Value := [(Value.string x)]
theorem a6r (x : ByteArray) : (K2 x).length = 1 := rfl
theorem a6s (x : ByteArray) : (K2 x).all (·.oneCell') = true := rfl
theorem c1w (a0 : ByteArray) (a1 : ByteArray) (w : World) : (Instr.buildSlice 77 2 #[(0, (Value.string a0)), (1, (Value.string a1))]).run pG w = .ok (.slice (some ⟨w.heap.size, 0, none⟩) 2 2) (w.alloc (.cells [(Value.string a0), (Value.string a1)].toArray 9)) := by kernel_rfl
abbrev a8l (x : Int) : List Value := [(Value.int .i64 x)]
theorem b4h (x : Int) : (a8l x).length = 1 := rfl
theorem b4i (x : Int) : (a8l x).all (·.oneCell') = true := rfl
theorem b9J (a0 : Int) (a1 : Int) (w : World) : (Instr.buildSlice 137 2 #[(0, (Value.int .i64 a0)), (1, (Value.int .i64 a1))]).run pG w = .ok (.slice (some ⟨w.heap.size, 0, none⟩) 2 2) (w.alloc (.cells [(Value.int .i64 a0), (Value.int .i64 a1)].toArray 3)) := by kernel_rfl
theorem a2N {g o : Nat} : Pu pG (xV (Instr.fieldAt 56 (.pointer (some ⟨g, o, none⟩)) 3)) (.pointer (some ⟨g, o + 3, none⟩)) := Pu.ok fun w => by kernel_rfl
theorem b2b (a0 : Int) (c3E : Int) (c3F : Int) : Pu pG (xV (Instr.build 103 #[(0, (Value.int .i64 a0)), (3, (Value.agg #[(Value.int .i64 c3E), (Value.int .i64 c3F)]))])) (.agg #[(Value.int .i64 a0), (Value.string ⟨#[]⟩), (Value.int .i64 0), (Value.int .i64 c3E), (Value.int .i64 c3F)]) := Pu.ok fun w => by kernel_rfl
abbrev f9 (x : b5) : List Value := [(Value.int .i64 x.c8), (Value.string x.B6), (Value.int .i64 x.J5), (Value.int .i64 x.fAt.D9), (Value.int .i64 x.fAt.L6)]
theorem a4H (x : b5) : (f9 x).length = 5 := rfl
theorem a4I (x : b5) : (f9 x).all (·.oneCell') = true := rfl
theorem b6i (V7 : Int) (V8 : ByteArray) (a7r : Int) (b8m : Int) (b8n : Int) (w : World) : (Instr.buildSlice 61 1 #[(0, (Value.agg #[(Value.int .i64 V7), (Value.string V8), (Value.int .i64 a7r), (Value.int .i64 b8m), (Value.int .i64 b8n)]))]).run pG w = .ok (.slice (some ⟨w.heap.size, 0, none⟩) 1 1) (w.alloc (.cells [(Value.int .i64 V7), (Value.string V8), (Value.int .i64 a7r), (Value.int .i64 b8m), (Value.int .i64 b8n)].toArray 103)) := by kernel_rfl
theorem c1x : Tryz.prog.info? 103 = some ((Tryz.prog.info? 103).getD default) := by kernel_rfl
theorem b8o {E : Pan} {w0 w : World} {ps : Nat → Prop} {H0 H : Hp} {Fs : List Frag} {K : Value → World → Prop} {s : Sl} {xs : List b5} {F : Frag} {t2 : Sl} {ys : List b5} {ks : List Bool} {ty : TypeId} (I : Inv w0 ps H0 H (F :: Fs) w) (hr : RowL 103 5 f9 s xs F) (hs : SrcO w f9 t2 ys) (hb : (xs.length + ys.length) * 49 ≤ 140737488355328) (h : ∀ (s' : Sl) (F' : Frag) (w' : World), RowL 103 5 f9 s' (xs ++ ys) F' → Inv w0 ps H0 H (F' :: Fs) w' → (∀ k, k < w.heap.size → (∀ p ∈ F, p.1 ≠ k) → w'.heap[k]? = w.heap[k]?) → K (.slice s'.a s'.n s'.c) w') : opK pG E (xBuiltin .append #[61, 61] ty ks [.slice s.a s.n s.c, .slice t2.a t2.n t2.c]) w K :=
  a9T (bytes := 48) Tryz.underlying61 c1x (z := (Value.agg #[(Value.int .i64 0), (Value.string ⟨#[]⟩), (Value.int .i64 0), (Value.int .i64 0), (Value.int .i64 0)])) (by kernel_rfl) (by kernel_rfl) (by kernel_rfl) (by kernel_rfl) I hr hs hb h
theorem b7r {g o : Nat} : Pu pG (xV (Instr.fieldAt 68 (.pointer (some ⟨g, o, none⟩)) 0)) (.pointer (some ⟨g, o + 0, none⟩)) := Pu.ok fun w => by kernel_rfl
theorem b4j (a0a : Option Addr) (a0n a0c : Nat) (a1a : Option Addr) (a1n a1c : Nat) (w : World) : (Instr.buildSlice 172 2 #[(0, (Value.slice a0a a0n a0c)), (1, (Value.slice a1a a1n a1c))]).run pG w = .ok (.slice (some ⟨w.heap.size, 0, none⟩) 2 2) (w.alloc (.cells [(Value.slice a0a a0n a0c), (Value.slice a1a a1n a1c)].toArray 128)) := by kernel_rfl
theorem b4k (V7 : Int) (V8 : Int) (a7r : ByteArray) (a0_3a : Option Addr) (a0_3n a0_3c : Nat) : Pu pG (xV (Instr.build 141 #[(0, (Value.agg #[(Value.int .i64 V7), (Value.int .i64 V8), (Value.string a7r), (Value.slice a0_3a a0_3n a0_3c)]))])) (.agg #[(Value.int .i64 V7), (Value.int .i64 V8), (Value.string a7r), (Value.slice a0_3a a0_3n a0_3c)]) := Pu.ok fun w => by kernel_rfl
theorem a8m (x : N0) : Pu pG (xV (Instr.makeInterface 141 (.agg #[(Value.int .i64 x.u4.c8), (Value.int .i64 x.u4.J5), (Value.string x.u4.o9), (Value.slice x.u4.P7.a x.u4.P7.n x.u4.P7.c)]))) (H7 (d8.G9 x)) := Pu.ok fun w => rfl
abbrev v7 (x : d8) : List Value := [(H7 x)]
theorem S0 (x : d8) : (v7 x).length = 1 := rfl
theorem U2 (x : d8) : (v7 x).all (·.oneCell') = true := b3E x
theorem a8F (a0 : d8) (w : World) : (Instr.buildSlice 128 1 #[(0, (H7 a0))]).run pG w = .ok (.slice (some ⟨w.heap.size, 0, none⟩) 1 1) (w.alloc (.cells [(H7 a0)].toArray 131)) := by cases a0 <;> kernel_rfl
theorem b4l (V7 : Int) (V8 : Int) (a0_2a : Option Addr) (a0_2n a0_2c : Nat) (a0_3a : Option Addr) (a0_3n a0_3c : Nat) : Pu pG (xV (Instr.build 146 #[(0, (Value.agg #[(Value.int .i64 V7), (Value.int .i64 V8), (Value.slice a0_2a a0_2n a0_2c), (Value.slice a0_3a a0_3n a0_3c)]))])) (.agg #[(Value.int .i64 V7), (Value.int .i64 V8), (Value.slice a0_2a a0_2n a0_2c), (Value.slice a0_3a a0_3n a0_3c)]) := Pu.ok fun w => by kernel_rfl
theorem b2c (x : S9) : Pu pG (xV (Instr.makeInterface 146 (.agg #[(Value.int .i64 x.r9.c8), (Value.int .i64 x.r9.fOp), (Value.slice x.r9.m7.a x.r9.m7.n x.r9.m7.c), (Value.slice x.r9.E4.a x.r9.E4.n x.r9.E4.c)]))) (H7 (d8.N2 x)) := Pu.ok fun w => rfl
theorem b2d (a0 : ByteArray) (c3G : Int) (c3H : Int) : Pu pG (xV (Instr.build 155 #[(0, (Value.string a0)), (2, (Value.agg #[(Value.int .i64 c3G), (Value.int .i64 c3H)]))])) (.agg #[(Value.string a0), (Value.int .i64 0), (Value.int .i64 c3G), (Value.int .i64 c3H), (Value.slice none 0 0)]) := Pu.ok fun w => by kernel_rfl
theorem V9 {g o : Nat} : Pu pG (xV (Instr.fieldAt 155 (.pointer (some ⟨g, o, none⟩)) 1)) (.pointer (some ⟨g, o + 1, none⟩)) := Pu.ok fun w => by kernel_rfl
theorem a5c {g o : Nat} : Pu pG (xV (Instr.fieldAt 155 (.pointer (some ⟨g, o, none⟩)) 0)) (.pointer (some ⟨g, o + 0, none⟩)) := Pu.ok fun w => by kernel_rfl
theorem a4b {g o : Nat} : Pu pG (xV (Instr.fieldAt 155 (.pointer (some ⟨g, o, none⟩)) 2)) (.pointer (some ⟨g, o + 2, none⟩)) := Pu.ok fun w => by kernel_rfl
theorem b1s {g o : Nat} : Pu pG (xV (Instr.fieldAt 28 (.pointer (some ⟨g, o, none⟩)) 1)) (.pointer (some ⟨g, o + 1, none⟩)) := Pu.ok fun w => by kernel_rfl
theorem b7s {g o : Nat} : Pu pG (xV (Instr.fieldAt 28 (.pointer (some ⟨g, o, none⟩)) 0)) (.pointer (some ⟨g, o + 0, none⟩)) := Pu.ok fun w => by kernel_rfl
theorem a6t {g o : Nat} : Pu pG (xV (Instr.fieldAt 155 (.pointer (some ⟨g, o, none⟩)) 3)) (.pointer (some ⟨g, o + 4, none⟩)) := Pu.ok fun w => by kernel_rfl
theorem c1y (s : ByteArray) (k : IntKind) (i : Int) (h0 : 0 ≤ i) (h1 : i < s.size) : Pu pG (xV (Instr.index 9 (.string s) (.int k i))) (.int .u8 ((s.get! i.toNat).toNat : Int)) := b3Z _ s k i Tryz.underlying9 h0 h1
theorem a4J (a0 : Int) (a1 : ByteArray) : Pu pG (xV (Instr.build 103 #[(0, (Value.int .i64 a0)), (1, (Value.string a1))])) (.agg #[(Value.int .i64 a0), (Value.string a1), (Value.int .i64 0), (Value.int .i64 0), (Value.int .i64 0)]) := Pu.ok fun w => by kernel_rfl
theorem b1t  : Pu pG (xV (Instr.build 103 #[])) (.agg #[(Value.int .i64 0), (Value.string ⟨#[]⟩), (Value.int .i64 0), (Value.int .i64 0), (Value.int .i64 0)]) := Pu.ok fun w => by kernel_rfl
theorem b8p  : Pu pG (xV (Instr.build 79 #[])) (.agg #[(Value.int .i64 0), (Value.int .i64 0), (Value.int .i64 0), (Value.bool false), (Value.bool false), (Value.slice none 0 0)]) := Pu.ok fun w => by kernel_rfl
theorem a7c (a : Option Addr) (n c : Nat) : Pu pG (xBuiltin .len #[128] 3 [false] [.slice a n c]) (.int .i64 (n : Int)) := a0W Tryz.underlying128 a n c
theorem b8q {a : Option Addr} {g o : Nat} (ha : a = some ⟨g, o, none⟩) (len cap : Nat) (k : IntKind) (i : Int) (h0 : 0 ≤ i) (h1 : i < len) : Pu pG (xV (Instr.indexAt 128 (.slice a len cap) (.int k i))) (.pointer (some ⟨g, o + i.toNat * 1, none⟩)) := a1J Tryz.underlying128 Tryz.sizeOf131 ha len cap k i h0 h1
theorem a8G {g o : Nat} : Pu pG (xV (Instr.fieldAt 79 (.pointer (some ⟨g, o, none⟩)) 0)) (.pointer (some ⟨g, o + 0, none⟩)) := Pu.ok fun w => by kernel_rfl
theorem b1u {g o : Nat} : Pu pG (xV (Instr.fieldAt 79 (.pointer (some ⟨g, o, none⟩)) 1)) (.pointer (some ⟨g, o + 1, none⟩)) := Pu.ok fun w => by kernel_rfl
theorem a8H {g o : Nat} : Pu pG (xV (Instr.fieldAt 79 (.pointer (some ⟨g, o, none⟩)) 3)) (.pointer (some ⟨g, o + 3, none⟩)) := Pu.ok fun w => by kernel_rfl
theorem a8I {g o : Nat} : Pu pG (xV (Instr.fieldAt 79 (.pointer (some ⟨g, o, none⟩)) 4)) (.pointer (some ⟨g, o + 4, none⟩)) := Pu.ok fun w => by kernel_rfl
theorem a8J {g o : Nat} : Pu pG (xV (Instr.fieldAt 79 (.pointer (some ⟨g, o, none⟩)) 5)) (.pointer (some ⟨g, o + 5, none⟩)) := Pu.ok fun w => by kernel_rfl
theorem c1z (a0 : ByteArray) (w : World) : (Instr.buildSlice 77 1 #[(0, (Value.string a0))]).run pG w = .ok (.slice (some ⟨w.heap.size, 0, none⟩) 1 1) (w.alloc (.cells [(Value.string a0)].toArray 9)) := by kernel_rfl
theorem c6I : Tryz.prog.info? 9 = some ((Tryz.prog.info? 9).getD default) := by kernel_rfl
theorem c3I {E : Pan} {w0 w : World} {ps : Nat → Prop} {H0 H : Hp} {Fs : List Frag} {K : Value → World → Prop} {s : Sl} {xs : List ByteArray} {F : Frag} {t2 : Sl} {ys : List ByteArray} {ks : List Bool} {ty : TypeId} (I : Inv w0 ps H0 H (F :: Fs) w) (hr : RowL 9 1 K2 s xs F) (hs : SrcO w K2 t2 ys) (hb : (xs.length + ys.length) * 17 ≤ 140737488355328) (h : ∀ (s' : Sl) (F' : Frag) (w' : World), RowL 9 1 K2 s' (xs ++ ys) F' → Inv w0 ps H0 H (F' :: Fs) w' → (∀ k, k < w.heap.size → (∀ p ∈ F, p.1 ≠ k) → w'.heap[k]? = w.heap[k]?) → K (.slice s'.a s'.n s'.c) w') : opK pG E (xBuiltin .append #[77, 77] ty ks [.slice s.a s.n s.c, .slice t2.a t2.n t2.c]) w K :=
  a9T (bytes := 16) Tryz.underlying77 c6I (z := (Value.string ⟨#[]⟩)) (by kernel_rfl) (by kernel_rfl) (by kernel_rfl) (by kernel_rfl) I hr hs hb h
theorem b1v (a : Option Addr) (n c : Nat) : Pu pG (xBuiltin .len #[172] 3 [false] [.slice a n c]) (.int .i64 (n : Int)) := a0W Tryz.underlying172 a n c
theorem b3a {a : Option Addr} {g o : Nat} (ha : a = some ⟨g, o, none⟩) (len cap : Nat) (k : IntKind) (i : Int) (h0 : 0 ≤ i) (h1 : i < len) : Pu pG (xV (Instr.indexAt 172 (.slice a len cap) (.int k i))) (.pointer (some ⟨g, o + i.toNat * 1, none⟩)) := a1J Tryz.underlying172 Tryz.sizeOf128 ha len cap k i h0 h1
theorem b8r (s : ByteArray) : Pu pG (xV (Instr.makeInterface 9 (.string s))) (.iface 9 (.string s)) := Pu.ok fun w => by kernel_rfl
theorem b6j : Tryz.prog.info? 131 = some ((Tryz.prog.info? 131).getD default) := by kernel_rfl
theorem a8n {E : Pan} {w0 w : World} {ps : Nat → Prop} {H0 H : Hp} {Fs : List Frag} {K : Value → World → Prop} {s : Sl} {xs : List d8} {F : Frag} {t2 : Sl} {ys : List d8} {ks : List Bool} {ty : TypeId} (I : Inv w0 ps H0 H (F :: Fs) w) (hr : RowL 131 1 v7 s xs F) (hs : SrcO w v7 t2 ys) (hb : (xs.length + ys.length) * 17 ≤ 140737488355328) (h : ∀ (s' : Sl) (F' : Frag) (w' : World), RowL 131 1 v7 s' (xs ++ ys) F' → Inv w0 ps H0 H (F' :: Fs) w' → (∀ k, k < w.heap.size → (∀ p ∈ F, p.1 ≠ k) → w'.heap[k]? = w.heap[k]?) → K (.slice s'.a s'.n s'.c) w') : opK pG E (xBuiltin .append #[128, 128] ty ks [.slice s.a s.n s.c, .slice t2.a t2.n t2.c]) w K :=
  a9T (bytes := 16) Tryz.underlying128 b6j (z := Value.nilIface) (by kernel_rfl) (by kernel_rfl) (by kernel_rfl) (by kernel_rfl) I hr hs hb h
theorem b4m (V7 : ByteArray) (V8 : Int) : Pu pG (xV (Instr.build 175 #[(0, (Value.agg #[(Value.string V7), (Value.int .i64 V8)]))])) (.agg #[(Value.string V7), (Value.int .i64 V8)]) := Pu.ok fun w => by kernel_rfl
theorem b2e (x : W0) : Pu pG (xV (Instr.makeInterface 175 (.agg #[(Value.string x.X0.o9), (Value.int .i64 x.X0.a0o)]))) (H7 (d8.M3 x)) := Pu.ok fun w => rfl
theorem b4n (V7 : Int) (V8 : ByteArray) (a0_2a : Option Addr) (a0_2n a0_2c : Nat) (a0_3a : Option Addr) (a0_3n a0_3c : Nat) (a0_4a : Option Addr) (a0_4n a0_4c : Nat) (a0_5a : Option Addr) (a0_5n a0_5c : Nat) : Pu pG (xV (Instr.build 177 #[(0, (Value.agg #[(Value.int .i64 V7), (Value.string V8), (Value.slice a0_2a a0_2n a0_2c), (Value.slice a0_3a a0_3n a0_3c), (Value.slice a0_4a a0_4n a0_4c), (Value.slice a0_5a a0_5n a0_5c)]))])) (.agg #[(Value.int .i64 V7), (Value.string V8), (Value.slice a0_2a a0_2n a0_2c), (Value.slice a0_3a a0_3n a0_3c), (Value.slice a0_4a a0_4n a0_4c), (Value.slice a0_5a a0_5n a0_5c)]) := Pu.ok fun w => by kernel_rfl
theorem b2f (x : T0) : Pu pG (xV (Instr.makeInterface 177 (.agg #[(Value.int .i64 x.i8.c8), (Value.string x.i8.o9), (Value.slice x.i8.m7.a x.i8.m7.n x.i8.m7.c), (Value.slice x.i8.A6.a x.i8.A6.n x.i8.A6.c), (Value.slice x.i8.L5.a x.i8.L5.n x.i8.L5.c), (Value.slice x.i8.I0.a x.i8.I0.n x.i8.I0.c)]))) (H7 (d8.J0 x)) := Pu.ok fun w => rfl
theorem b0E {g o : Nat} : Pu pG (xV (Instr.fieldAt 139 (.pointer (some ⟨g, o, none⟩)) 2)) (.pointer (some ⟨g, o + 2, none⟩)) := Pu.ok fun w => by kernel_rfl
theorem c1A (a0 : ByteArray) (a1 : ByteArray) (a2 : ByteArray) (w : World) : (Instr.buildSlice 77 3 #[(0, (Value.string a0)), (1, (Value.string a1)), (2, (Value.string a2))]).run pG w = .ok (.slice (some ⟨w.heap.size, 0, none⟩) 3 3) (w.alloc (.cells [(Value.string a0), (Value.string a1), (Value.string a2)].toArray 9)) := by kernel_rfl
theorem b9K (a0 : Int) (a1 : Int) (a2 : Int) (w : World) : (Instr.buildSlice 137 3 #[(0, (Value.int .i64 a0)), (1, (Value.int .i64 a1)), (2, (Value.int .i64 a2))]).run pG w = .ok (.slice (some ⟨w.heap.size, 0, none⟩) 3 3) (w.alloc (.cells [(Value.int .i64 a0), (Value.int .i64 a1), (Value.int .i64 a2)].toArray 3)) := by kernel_rfl
theorem a7s (a0 a1 a2 a3 a4 a5 a6 : ByteArray) : Pu pG (xV (Instr.build 195 #[(0, .string a0), (1, .string a1), (2, .string a2), (3, .string a3), (4, .string a4), (5, .string a5), (6, .string a6)])) (.agg #[.string a0, .string a1, .string a2, .string a3, .string a4, .string a5, .string a6]) := Pu.ok fun w => by kernel_rfl
theorem b7t (a0 a1 a2 a3 a4 a5 a6 : ByteArray) (k : IntKind) (i : Int) (h0 : 0 ≤ i) (h1 : i < 7) : Pu pG (xV (Instr.index 195 (.agg #[.string a0, .string a1, .string a2, .string a3, .string a4, .string a5, .string a6]) (.int k i))) (.string (([a0, a1, a2, a3, a4, a5, a6] : List ByteArray).getD i.toNat ⟨#[]⟩)) := by
  obtain rfl | rfl | rfl | rfl | rfl | rfl | rfl := (by omega : i = 0 ∨ i = 1 ∨ i = 2 ∨ i = 3 ∨ i = 4 ∨ i = 5 ∨ i = 6)
  · exact Pu.ok fun w => by kernel_rfl
  · exact Pu.ok fun w => by kernel_rfl
  · exact Pu.ok fun w => by kernel_rfl
  · exact Pu.ok fun w => by kernel_rfl
  · exact Pu.ok fun w => by kernel_rfl
  · exact Pu.ok fun w => by kernel_rfl
  · exact Pu.ok fun w => by kernel_rfl
theorem b5N {g o : Nat} : Pu pG (xV (Instr.fieldAt 139 (.pointer (some ⟨g, o, none⟩)) 0)) (.pointer (some ⟨g, o + 0, none⟩)) := Pu.ok fun w => by kernel_rfl
theorem b8s (a : Option Addr) (n c : Nat) : Pu pG (xBuiltin .len #[77] 3 [false] [.slice a n c]) (.int .i64 (n : Int)) := a0W Tryz.underlying77 a n c
theorem b4o {a : Option Addr} {g o : Nat} (ha : a = some ⟨g, o, none⟩) (len cap : Nat) (k : IntKind) (i : Int) (h0 : 0 ≤ i) (h1 : i < len) : Pu pG (xV (Instr.indexAt 77 (.slice a len cap) (.int k i))) (.pointer (some ⟨g, o + i.toNat * 1, none⟩)) := a1J Tryz.underlying77 Tryz.sizeOf9 ha len cap k i h0 h1
theorem b5O {g o : Nat} : Pu pG (xV (Instr.fieldAt 139 (.pointer (some ⟨g, o, none⟩)) 1)) (.pointer (some ⟨g, o + 1, none⟩)) := Pu.ok fun w => by kernel_rfl
theorem b8t {a : Option Addr} {g o : Nat} (ha : a = some ⟨g, o, none⟩) (len cap : Nat) (k : IntKind) (i : Int) (h0 : 0 ≤ i) (h1 : i < len) : Pu pG (xV (Instr.indexAt 137 (.slice a len cap) (.int k i))) (.pointer (some ⟨g, o + i.toNat * 1, none⟩)) := a1J Tryz.underlying137 Tryz.sizeOf3 ha len cap k i h0 h1
theorem b7u (x : Operand) {v : Value} (h : okI v) : Pu pG (xBin .neq 200 x (.const Value.nilIface) v Value.nilIface) (.bool (!isNilI v)) := b9F _ _ (by kernel_rfl) h
theorem b7v (a0 a1 a2 a3 a4 a5 : ByteArray) (k : IntKind) (i : Int) (h0 : 0 ≤ i) (h1 : i < 6) : Pu pG (xV (Instr.index 203 (.agg #[.string a0, .string a1, .string a2, .string a3, .string a4, .string a5]) (.int k i))) (.string (([a0, a1, a2, a3, a4, a5] : List ByteArray).getD i.toNat ⟨#[]⟩)) := by
  obtain rfl | rfl | rfl | rfl | rfl | rfl := (by omega : i = 0 ∨ i = 1 ∨ i = 2 ∨ i = 3 ∨ i = 4 ∨ i = 5)
  · exact Pu.ok fun w => by kernel_rfl
  · exact Pu.ok fun w => by kernel_rfl
  · exact Pu.ok fun w => by kernel_rfl
  · exact Pu.ok fun w => by kernel_rfl
  · exact Pu.ok fun w => by kernel_rfl
  · exact Pu.ok fun w => by kernel_rfl
theorem b3H (x : d8) : Pu pG (xV (Instr.typeAssert (H7 x) 131 175 true)) (.tuple #[(Value.agg #[(Value.string ((((x.Y5)).X0).o9)), (Value.int .i64 ((((x.Y5)).X0).a0o))]), .bool (x.a4C)]) := by
  cases x <;> exact Pu.ok fun w => by kernel_rfl
theorem a8a {g o : Nat} : Pu pG (xV (Instr.fieldAt 175 (.pointer (some ⟨g, o, none⟩)) 0)) (.pointer (some ⟨g, o + 0, none⟩)) := Pu.ok fun w => by kernel_rfl
theorem b3I (x : d8) : Pu pG (xV (Instr.typeAssert (H7 x) 131 177 true)) (.tuple #[(Value.agg #[(Value.int .i64 ((((x.s8)).i8).c8)), (Value.string ((((x.s8)).i8).o9)), (Value.slice ((((x.s8)).i8).m7).a ((((x.s8)).i8).m7).n ((((x.s8)).i8).m7).c), (Value.slice ((((x.s8)).i8).A6).a ((((x.s8)).i8).A6).n ((((x.s8)).i8).A6).c), (Value.slice ((((x.s8)).i8).L5).a ((((x.s8)).i8).L5).n ((((x.s8)).i8).L5).c), (Value.slice ((((x.s8)).i8).I0).a ((((x.s8)).i8).I0).n ((((x.s8)).i8).I0).c)]), .bool (x.a4D)]) := by
  cases x <;> exact Pu.ok fun w => by kernel_rfl
theorem O0 {g o : Nat} : Pu pG (xV (Instr.fieldAt 177 (.pointer (some ⟨g, o, none⟩)) 0)) (.pointer (some ⟨g, o + 0, none⟩)) := Pu.ok fun w => by kernel_rfl
theorem b3J (x : d8) : Pu pG (xV (Instr.typeAssert (H7 x) 131 141 true)) (.tuple #[(Value.agg #[(Value.int .i64 ((((x.D4)).u4).c8)), (Value.int .i64 ((((x.D4)).u4).J5)), (Value.string ((((x.D4)).u4).o9)), (Value.slice ((((x.D4)).u4).P7).a ((((x.D4)).u4).P7).n ((((x.D4)).u4).P7).c)]), .bool (x.a4B)]) := by
  cases x <;> exact Pu.ok fun w => by kernel_rfl
theorem Z7 {g o : Nat} : Pu pG (xV (Instr.fieldAt 141 (.pointer (some ⟨g, o, none⟩)) 0)) (.pointer (some ⟨g, o + 0, none⟩)) := Pu.ok fun w => by kernel_rfl
theorem a0M {g o : Nat} : Pu pG (xV (Instr.fieldAt 146 (.pointer (some ⟨g, o, none⟩)) 0)) (.pointer (some ⟨g, o + 0, none⟩)) := Pu.ok fun w => by kernel_rfl
theorem a4K (a0 : Int) (a1 : Int) : Pu pG (xV (Instr.build 260 #[(0, (Value.int .i64 a0)), (1, (Value.int .i64 a1))])) (.agg #[(Value.int .i64 a0), (Value.int .i64 a1)]) := Pu.ok fun w => by kernel_rfl
theorem c1B (d : Nat) (a0 b0 : Int) (a1 b1 : Int) (w : World) : (Op.equalIn (d + 2) 260 (.agg #[(Value.int .i64 a0), (Value.int .i64 a1)]) (.agg #[(Value.int .i64 b0), (Value.int .i64 b1)])).run pG w = .ok (decide (a0 = b0 ∧ a1 = b1)) w := by
  have u3 := Tryz.underlying3
  have i3 := Tryz.isAgg3
  have s3 := Tryz.sizeOf3
  have hS : Tryz.prog.underlying 260 = some (.struct (Tryz.prog.fieldsOf 260)) := by kernel_rfl
  rw [run_equalIn_agg w (d + 1) 260 _ _ hS (by kernel_rfl)]
  simp only [Program.fieldsOf, Tryz.underlying260]
  go_simp
  try simp only [a8B]
  by_cases h0 : a0 = b0
  · by_cases h1 : a1 = b1
    · simp [h0, h1]
    · simp [h0, h1]
  · simp [h0]
theorem a7P (x y : Operand) (a0 b0 : Int) (a1 b1 : Int) : Pu pG (xBin .eql 260 x y (.agg #[(Value.int .i64 a0), (Value.int .i64 a1)]) (.agg #[(Value.int .i64 b0), (Value.int .i64 b1)])) (.bool (decide (a0 = b0 ∧ a1 = b1))) := by
  refine Pu.ok (s := do eqGuard .eql 260 x y (.agg #[(Value.int .i64 a0), (Value.int .i64 a1)]) (.agg #[(Value.int .i64 b0), (Value.int .i64 b1)]); binOp .eql 260 (.agg #[(Value.int .i64 a0), (Value.int .i64 a1)]) (.agg #[(Value.int .i64 b0), (Value.int .i64 b1)])) fun w => ?_
  rw [Sem.run_bind, run_eqGuard_agg w _ _ _ _ _ _ (by kernel_rfl), Result.andThen_ok, run_eql_struct, show (10000 : Nat) = 9998 + 2 from rfl, c1B]
  rfl
theorem b7w  : Pu pG (xV (Instr.build 260 #[])) (.agg #[(Value.int .i64 0), (Value.int .i64 0)]) := Pu.ok fun w => by kernel_rfl
theorem a1O (a0 : Int) (a1 : Int) : Pu pG (xV (Instr.build 264 #[(0, (Value.int .i64 a0)), (1, (Value.int .i64 a1))])) (.agg #[(Value.int .i64 a0), (Value.int .i64 a1)]) := Pu.ok fun w => by kernel_rfl
theorem c1C (d : Nat) (a0 b0 : Int) (a1 b1 : Int) (w : World) : (Op.equalIn (d + 2) 264 (.agg #[(Value.int .i64 a0), (Value.int .i64 a1)]) (.agg #[(Value.int .i64 b0), (Value.int .i64 b1)])).run pG w = .ok (decide (a0 = b0 ∧ a1 = b1)) w := by
  have u3 := Tryz.underlying3
  have i3 := Tryz.isAgg3
  have s3 := Tryz.sizeOf3
  have hS : Tryz.prog.underlying 264 = some (.struct (Tryz.prog.fieldsOf 264)) := by kernel_rfl
  rw [run_equalIn_agg w (d + 1) 264 _ _ hS (by kernel_rfl)]
  simp only [Program.fieldsOf, Tryz.underlying264]
  go_simp
  try simp only [a8B]
  by_cases h0 : a0 = b0
  · by_cases h1 : a1 = b1
    · simp [h0, h1]
    · simp [h0, h1]
  · simp [h0]
theorem a5o (x y : Operand) (a0 b0 : Int) (a1 b1 : Int) : Pu pG (xBin .eql 264 x y (.agg #[(Value.int .i64 a0), (Value.int .i64 a1)]) (.agg #[(Value.int .i64 b0), (Value.int .i64 b1)])) (.bool (decide (a0 = b0 ∧ a1 = b1))) := by
  refine Pu.ok (s := do eqGuard .eql 264 x y (.agg #[(Value.int .i64 a0), (Value.int .i64 a1)]) (.agg #[(Value.int .i64 b0), (Value.int .i64 b1)]); binOp .eql 264 (.agg #[(Value.int .i64 a0), (Value.int .i64 a1)]) (.agg #[(Value.int .i64 b0), (Value.int .i64 b1)])) fun w => ?_
  rw [Sem.run_bind, run_eqGuard_agg w _ _ _ _ _ _ (by kernel_rfl), Result.andThen_ok, run_eql_struct, show (10000 : Nat) = 9998 + 2 from rfl, c1C]
  rfl
theorem b7x  : Pu pG (xV (Instr.build 264 #[])) (.agg #[(Value.int .i64 0), (Value.int .i64 0)]) := Pu.ok fun w => by kernel_rfl
theorem b9L (a0a : Option Addr) (a0n a0c : Nat) (a1a : Option Addr) (a1n a1c : Nat) (a2a : Option Addr) (a2n a2c : Nat) (a3a : Option Addr) (a3n a3c : Nat) (w : World) : (Instr.buildSlice 172 4 #[(0, (Value.slice a0a a0n a0c)), (1, (Value.slice a1a a1n a1c)), (2, (Value.slice a2a a2n a2c)), (3, (Value.slice a3a a3n a3c))]).run pG w = .ok (.slice (some ⟨w.heap.size, 0, none⟩) 4 4) (w.alloc (.cells [(Value.slice a0a a0n a0c), (Value.slice a1a a1n a1c), (Value.slice a2a a2n a2c), (Value.slice a3a a3n a3c)].toArray 128)) := by kernel_rfl
abbrev l9 (x : l7) : List Value := [(Value.slice x.a1U.a x.a1U.n x.a1U.c), (Value.slice x.a0J.a x.a0J.n x.a0J.c)]
abbrev j8 (x : b8) : List Value := [(Value.int .i64 x.D9), (Value.int .i64 x.L6)]
abbrev m5 (x : b6) : List Value := [(Value.slice x.fl.a x.fl.n x.fl.c), (Value.int .i64 x.fat), (Value.int .i64 x.fbad), (Value.int .i64 x.fpos.D9), (Value.int .i64 x.fpos.L6)]
abbrev a8o (x : m8) : List Value := [(Value.int .i64 x.fnodes), (Value.int .i64 x.fdepth), (Value.int .i64 x.fe), (Value.bool x.fform), (Value.bool x.fnamed), (Value.slice x.fnames.a x.fnames.n x.fnames.c)]
abbrev b7 (x : a8) : List Value := [(Value.slice x.fl.a x.fl.n x.fl.c), (Value.int .i64 x.fn)]
abbrev U3 (x : a0X) : List Value := [(Value.slice x.fsigns.a x.fsigns.n x.fsigns.c), (Value.slice x.fkinds.a x.fkinds.n x.fkinds.c), x.fpart]
end Go.Proofs.YthklmeihgmcljaaGreatDoor
