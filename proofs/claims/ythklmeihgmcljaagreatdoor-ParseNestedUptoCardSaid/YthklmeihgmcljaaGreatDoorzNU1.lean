/- Single operations at this program's types, and its structures; printed by lift.py. -/
import Derived.KernelRfl
import Derived.Laws.StructEq
import Derived.Laws.Cover2
import Derived.Test.YthklmeihgmcljaaGreatDoorzNS5
import Derived.Test.YthklmeihgmcljaaGreatDoorzNGz
namespace Go.Proofs.YthklmeihgmcljaaGreatDoor
open Go.RowKit
set_option maxRecDepth 100000
set_option maxHeartbeats 2000000
structure l9 where
  a3A : Sl
  a2f : Sl
structure c8 where
  A6 : Int
  E7 : Int
structure d7 where
  g6 : Int
  T4 : Int
  B0 : ByteArray
  P0 : Sl
structure f7 where
  g6 : Int
  fOp : Int
  m5 : Sl
  E3 : Sl
structure g5 where
  g6 : Int
  B0 : ByteArray
  m5 : Sl
  A4 : Sl
  M2 : Sl
  L5 : Sl
structure b8 where
  fl : Sl
  fat : Int
  fbad : Int
  fpos : c8
structure b7 where
  g6 : Int
  B3 : ByteArray
  T4 : Int
  fAt : c8
structure l8 where
  B0 : ByteArray
  a3t : Int
structure L3 where
  f0 : ByteArray
  f1 : ByteArray
  f2 : ByteArray
  f3 : ByteArray
  f4 : ByteArray
  f5 : ByteArray
structure l7 where
  fnodes : Int
  fdepth : Int
  fe : Int
  fform : Bool
  fnamed : Bool
  fnames : Sl
structure b6 where
  fl : Sl
  fn : Int
structure c2f where
  fat : c8
  fe : Int
structure a9T where
  fn : Int
  fdepth : Int
  fbad : Int
structure a9U where
  fok : Bool
  fnames : Bool
structure K9 where
  t6 : d7
structure R3 where
  q7 : f7
structure d6 where
  fs : ByteArray
  fn : Int
  fat : c8
  fl : Sl
structure U3 where
  V1 : l8
structure R4 where
  i8 : g5
structure a0A where
  fsigns : Sl
  fkinds : Sl
  fpart : Value
structure J0 where
  f0 : ByteArray
  f1 : ByteArray
  f2 : ByteArray
  f3 : ByteArray
  f4 : ByteArray
  f5 : ByteArray
  f6 : ByteArray
structure F7 where
  fexprs : Int
  fparts : Int
structure N9 where
  fexprs : Int
  fconds : Int
abbrev r8 (x : d6) (s0 : Sl) : List Value := [(Value.string x.fs), (vi x.fn), (vi x.fat.A6), (vi x.fat.E7), (vs s0)]
abbrev q9 (x : d6) : d6 := d6.mk x.fs x.fn x.fat (Sl.mk none 0 0)
abbrev Z7 (x : l7) (s0 : Sl) : List Value := [(vi x.fnodes), (vi x.fdepth), (vi x.fe), (Value.bool x.fform), (Value.bool x.fnamed), (vs s0)]
abbrev Y2 (x : l7) : l7 := l7.mk x.fnodes x.fdepth x.fe x.fform x.fnamed (Sl.mk none 0 0)
inductive d8 where
  | nil
  | E4 (x : K9)
  | L1 (x : R3)
  | K0 (x : U3)
  | F0 (x : R4)
def E5 : d8 → Value
  | .nil => .nilIface
  | .E4 x => .iface 141 (.agg #[(Value.int .i64 x.t6.g6), (Value.int .i64 x.t6.T4), (Value.string x.t6.B0), (Value.slice x.t6.P0.a x.t6.P0.n x.t6.P0.c)])
  | .L1 x => .iface 146 (.agg #[(Value.int .i64 x.q7.g6), (Value.int .i64 x.q7.fOp), (Value.slice x.q7.m5.a x.q7.m5.n x.q7.m5.c), (Value.slice x.q7.E3.a x.q7.E3.n x.q7.E3.c)])
  | .K0 x => .iface 175 (.agg #[(Value.string x.V1.B0), (Value.int .i64 x.V1.a3t)])
  | .F0 x => .iface 177 (.agg #[(Value.int .i64 x.i8.g6), (Value.string x.i8.B0), (Value.slice x.i8.m5.a x.i8.m5.n x.i8.m5.c), (Value.slice x.i8.A4.a x.i8.A4.n x.i8.A4.c), (Value.slice x.i8.M2.a x.i8.M2.n x.i8.M2.c), (Value.slice x.i8.L5.a x.i8.L5.n x.i8.L5.c)])
theorem b2K (x : d8) : [E5 x].all (·.oneCell') = true := by cases x <;> rfl
def d8.C2 : d8 → K9
  | .E4 x => x
  | _ => (K9.mk (d7.mk 0 0 ⟨#[]⟩ (Sl.mk none 0 0)))
def d8.a3P : d8 → Bool
  | .E4 _ => true
  | _ => false
def d8.W6 : d8 → U3
  | .K0 x => x
  | _ => (U3.mk (l8.mk ⟨#[]⟩ 0))
def d8.a3Q : d8 → Bool
  | .K0 _ => true
  | _ => false
def d8.r7 : d8 → R4
  | .F0 x => x
  | _ => (R4.mk (g5.mk 0 ⟨#[]⟩ (Sl.mk none 0 0) (Sl.mk none 0 0) (Sl.mk none 0 0) (Sl.mk none 0 0)))
def d8.a3R : d8 → Bool
  | .F0 _ => true
  | _ => false
theorem c2g (d : Nat) (a0 b0 : Int) (a1 b1 : Int) (w : World) : (Op.equalIn (d + 2) 28 (.agg #[(Value.int .i64 a0), (Value.int .i64 a1)]) (.agg #[(Value.int .i64 b0), (Value.int .i64 b1)])).run pG w = .ok (decide (a0 = b0 ∧ a1 = b1)) w := by
  have u3 := Tryz.underlying3
  have i3 := Tryz.isAgg3
  have s3 := Tryz.sizeOf3
  have hS : Tryz.prog.underlying 28 = some (.struct (Tryz.prog.fieldsOf 28)) := by kernel_rfl
  rw [run_equalIn_agg w (d + 1) 28 _ _ hS (by kernel_rfl)]
  simp only [Program.fieldsOf, Tryz.underlying28]
  go_simp
  try simp only [a9S]
  by_cases h0 : a0 = b0
  · by_cases h1 : a1 = b1
    · simp [h0, h1]
    · simp [h0, h1]
  · simp [h0]
theorem a9V (x y : Operand) (a0 b0 : Int) (a1 b1 : Int) : Pu pG (xBin .eql 28 x y (.agg #[(Value.int .i64 a0), (Value.int .i64 a1)]) (.agg #[(Value.int .i64 b0), (Value.int .i64 b1)])) (.bool (decide (a0 = b0 ∧ a1 = b1))) := by
  refine Pu.ok (s := do eqGuard .eql 28 x y (.agg #[(Value.int .i64 a0), (Value.int .i64 a1)]) (.agg #[(Value.int .i64 b0), (Value.int .i64 b1)]); binOp .eql 28 (.agg #[(Value.int .i64 a0), (Value.int .i64 a1)]) (.agg #[(Value.int .i64 b0), (Value.int .i64 b1)])) fun w => ?_
  rw [Sem.run_bind, run_eqGuard_agg w _ _ _ _ _ _ (by kernel_rfl), Result.andThen_ok, run_eql_struct, show (10000 : Nat) = 9998 + 2 from rfl, c2g]
  rfl
theorem a6s {g o : Nat} : Pu pG (xV (Instr.fieldAt 26 (.pointer (some ⟨g, o, none⟩)) 0)) (.pointer (some ⟨g, o + 0, none⟩)) := Pu.ok fun w => by kernel_rfl
theorem b2k (a : Option Addr) (n c : Nat) : Pu pG (xBuiltin .len #[23] 3 [false] [.slice a n c]) (.int .i64 (n : Int)) := a0z Tryz.underlying23 a n c
theorem a2L {g o : Nat} : Pu pG (xV (Instr.fieldAt 26 (.pointer (some ⟨g, o, none⟩)) 1)) (.pointer (some ⟨g, o + 1, none⟩)) := Pu.ok fun w => by kernel_rfl
theorem a4E (a : Option Addr) (n c : Nat) : Pu pG (xBuiltin .len #[24] 3 [false] [.slice a n c]) (.int .i64 (n : Int)) := a0z Tryz.underlying24 a n c
theorem b2l  : Pu pG (xV (Instr.build 28 #[])) (.agg #[(Value.int .i64 0), (Value.int .i64 0)]) := Pu.ok fun w => by kernel_rfl
theorem a3B (s : ByteArray) : Pu pG (xBuiltin .len #[9] 3 [false] [.string s]) (.int .i64 (s.size : Int)) := b6i _ _ s Tryz.underlying9
theorem a6c (a0 : Int) (a1 : Int) : Pu pG (xV (Instr.build 28 #[(0, (Value.int .i64 a0)), (1, (Value.int .i64 a1))])) (.agg #[(Value.int .i64 a0), (Value.int .i64 a1)]) := Pu.ok fun w => by kernel_rfl
theorem a4W {g o : Nat} : Pu pG (xV (Instr.fieldAt 40 (.pointer (some ⟨g, o, none⟩)) 0)) (.pointer (some ⟨g, o + 0, none⟩)) := Pu.ok fun w => by kernel_rfl
theorem b0t {g o : Nat} : Pu pG (xV (Instr.fieldAt 40 (.pointer (some ⟨g, o, none⟩)) 3)) (.pointer (some ⟨g, o + 3, none⟩)) := Pu.ok fun w => by kernel_rfl
theorem a5S (a : Option Addr) (n c : Nat) : Pu pG (xBuiltin .len #[38] 3 [false] [.slice a n c]) (.int .i64 (n : Int)) := a0z Tryz.underlying38 a n c
theorem b3h {a : Option Addr} {g o : Nat} (ha : a = some ⟨g, o, none⟩) (len cap : Nat) (k : IntKind) (i : Int) (h0 : 0 ≤ i) (h1 : i < len) : Pu pG (xV (Instr.indexAt 38 (.slice a len cap) (.int k i))) (.pointer (some ⟨g, o + i.toNat * 4, none⟩)) := a1e Tryz.underlying38 Tryz.sizeOf40 ha len cap k i h0 h1
theorem b0u {g o : Nat} : Pu pG (xV (Instr.fieldAt 40 (.pointer (some ⟨g, o, none⟩)) 1)) (.pointer (some ⟨g, o + 1, none⟩)) := Pu.ok fun w => by kernel_rfl
theorem b0v {g o : Nat} : Pu pG (xV (Instr.fieldAt 49 (.pointer (some ⟨g, o, none⟩)) 0)) (.pointer (some ⟨g, o + 0, none⟩)) := Pu.ok fun w => by kernel_rfl
theorem b0w {g o : Nat} : Pu pG (xV (Instr.fieldAt 49 (.pointer (some ⟨g, o, none⟩)) 3)) (.pointer (some ⟨g, o + 3, none⟩)) := Pu.ok fun w => by kernel_rfl
theorem a8I (a : Option Addr) (n c : Nat) : Pu pG (xBuiltin .len #[47] 3 [false] [.slice a n c]) (.int .i64 (n : Int)) := a0z Tryz.underlying47 a n c
theorem b0x {g o : Nat} : Pu pG (xV (Instr.fieldAt 49 (.pointer (some ⟨g, o, none⟩)) 2)) (.pointer (some ⟨g, o + 2, none⟩)) := Pu.ok fun w => by kernel_rfl
theorem a9W {a : Option Addr} {g o : Nat} (ha : a = some ⟨g, o, none⟩) (len cap : Nat) (k : IntKind) (i : Int) (h0 : 0 ≤ i) (h1 : i < len) : Pu pG (xV (Instr.indexAt 24 (.slice a len cap) (.int k i))) (.pointer (some ⟨g, o + i.toNat * 6, none⟩)) := a1e Tryz.underlying24 Tryz.sizeOf56 ha len cap k i h0 h1
theorem a2g {g o : Nat} : Pu pG (xV (Instr.fieldAt 56 (.pointer (some ⟨g, o, none⟩)) 2)) (.pointer (some ⟨g, o + 2, none⟩)) := Pu.ok fun w => by kernel_rfl
theorem b6n {g o : Nat} : Pu pG (xV (Instr.fieldAt 66 (.pointer (some ⟨g, o, none⟩)) 2)) (.pointer (some ⟨g, o + 2, none⟩)) := Pu.ok fun w => by kernel_rfl
theorem b6o {g o : Nat} : Pu pG (xV (Instr.fieldAt 66 (.pointer (some ⟨g, o, none⟩)) 0)) (.pointer (some ⟨g, o + 0, none⟩)) := Pu.ok fun w => by kernel_rfl
theorem a2M {g o : Nat} : Pu pG (xV (Instr.fieldAt 66 (.pointer (some ⟨g, o, none⟩)) 1)) (.pointer (some ⟨g, o + 1, none⟩)) := Pu.ok fun w => by kernel_rfl
theorem b3i {a : Option Addr} {g o : Nat} (ha : a = some ⟨g, o, none⟩) (len cap : Nat) (k : IntKind) (i : Int) (h0 : 0 ≤ i) (h1 : i < len) : Pu pG (xV (Instr.indexAt 61 (.slice a len cap) (.int k i))) (.pointer (some ⟨g, o + i.toNat * 5, none⟩)) := a1e Tryz.underlying61 Tryz.sizeOf103 ha len cap k i h0 h1
theorem a0q {g o : Nat} : Pu pG (xV (Instr.fieldAt 103 (.pointer (some ⟨g, o, none⟩)) 0)) (.pointer (some ⟨g, o + 0, none⟩)) := Pu.ok fun w => by kernel_rfl
theorem Q5 {g o : Nat} : Pu pG (xV (Instr.fieldAt 103 (.pointer (some ⟨g, o, none⟩)) 1)) (.pointer (some ⟨g, o + 1, none⟩)) := Pu.ok fun w => by kernel_rfl
theorem a8J {a0 a1 a2 a3 a4 : Value} : Pu pG (xV (Instr.field 103 (.agg #[a0, a1, a2, a3, a4]) 3)) (.agg #[a3, a4]) := Pu.ok fun w => by kernel_rfl
theorem b4M (a0 : ByteArray) : Pu pG (xV (Instr.build 68 #[(0, (Value.string a0))])) (.agg #[(Value.string a0), (Value.int .i64 0)]) := Pu.ok fun w => by kernel_rfl
theorem a5J {g o : Nat} : Pu pG (xV (Instr.fieldAt 103 (.pointer (some ⟨g, o, none⟩)) 2)) (.pointer (some ⟨g, o + 2, none⟩)) := Pu.ok fun w => by kernel_rfl
theorem a7R {g o : Nat} : Pu pG (xV (Instr.fieldAt 68 (.pointer (some ⟨g, o, none⟩)) 1)) (.pointer (some ⟨g, o + 1, none⟩)) := Pu.ok fun w => by kernel_rfl
abbrev A0 (x : l8) : List Value := [(Value.string x.B0), (Value.int .i64 x.a3t)]
theorem a8r (x : l8) : (A0 x).length = 2 := rfl
theorem a8s (x : l8) : (A0 x).all (·.oneCell') = true := rfl
theorem c0f (U0 : ByteArray) (U1 : Int) (w : World) : (Instr.buildSlice 23 1 #[(0, (Value.agg #[(Value.string U0), (Value.int .i64 U1)]))]).run pG w = .ok (.slice (some ⟨w.heap.size, 0, none⟩) 1 1) (w.alloc (.cells [(Value.string U0), (Value.int .i64 U1)].toArray 68)) := by kernel_rfl
theorem c2h : Tryz.prog.info? 68 = some ((Tryz.prog.info? 68).getD default) := by kernel_rfl
theorem c2i {E : Pan} {w0 w : World} {ps : Nat → Prop} {H0 H : Hp} {Fs : List Frag} {K : Value → World → Prop} {s : Sl} {xs : List l8} {F : Frag} {t2 : Sl} {ys : List l8} {ks : List Bool} {ty : TypeId} (I : Inv w0 ps H0 H (F :: Fs) w) (hr : RowL 68 2 A0 s xs F) (hs : SrcO w A0 t2 ys) (hb : (xs.length + ys.length) * 25 ≤ 140737488355328) (h : ∀ (s' : Sl) (F' : Frag) (w' : World), RowL 68 2 A0 s' (xs ++ ys) F' → Inv w0 ps H0 H (F' :: Fs) w' → (∀ k, k < w.heap.size → (∀ p ∈ F, p.1 ≠ k) → w'.heap[k]? = w.heap[k]?) → K (.slice s'.a s'.n s'.c) w') : opK pG E (xBuiltin .append #[23, 23] ty ks [.slice s.a s.n s.c, .slice t2.a t2.n t2.c]) w K :=
  a9d (bytes := 24) Tryz.underlying23 c2h (z := (Value.agg #[(Value.string ⟨#[]⟩), (Value.int .i64 0)])) (by kernel_rfl) (by kernel_rfl) (by kernel_rfl) (by kernel_rfl) I hr hs hb h
theorem a4X {a0 a1 a2 a3 a4 : Value} : Pu pG (xV (Instr.field 103 (.agg #[a0, a1, a2, a3, a4]) 0)) a0 := Pu.ok fun w => by kernel_rfl
theorem a9J (a0 : Int) : Pu pG (xV (Instr.build 49 #[(0, (Value.int .i64 a0))])) (.agg #[(Value.int .i64 a0), (Value.int .i64 0), (Value.slice none 0 0), (Value.slice none 0 0)]) := Pu.ok fun w => by kernel_rfl
abbrev i6 (x : f7) : List Value := [(Value.int .i64 x.g6), (Value.int .i64 x.fOp), (Value.slice x.m5.a x.m5.n x.m5.c), (Value.slice x.E3.a x.E3.n x.E3.c)]
theorem R7 (x : f7) : (i6 x).length = 4 := rfl
theorem R8 (x : f7) : (i6 x).all (·.oneCell') = true := rfl
theorem a7B (U0 : Int) (U1 : Int) (a0_2a : Option Addr) (a0_2n a0_2c : Nat) (a0_3a : Option Addr) (a0_3n a0_3c : Nat) (w : World) : (Instr.buildSlice 47 1 #[(0, (Value.agg #[(Value.int .i64 U0), (Value.int .i64 U1), (Value.slice a0_2a a0_2n a0_2c), (Value.slice a0_3a a0_3n a0_3c)]))]).run pG w = .ok (.slice (some ⟨w.heap.size, 0, none⟩) 1 1) (w.alloc (.cells [(Value.int .i64 U0), (Value.int .i64 U1), (Value.slice a0_2a a0_2n a0_2c), (Value.slice a0_3a a0_3n a0_3c)].toArray 49)) := by kernel_rfl
theorem a4s (a0 : Int) (a3a : Option Addr) (a3n a3c : Nat) : Pu pG (xV (Instr.build 49 #[(0, (Value.int .i64 a0)), (3, (Value.slice a3a a3n a3c))])) (.agg #[(Value.int .i64 a0), (Value.int .i64 0), (Value.slice none 0 0), (Value.slice a3a a3n a3c)]) := Pu.ok fun w => by kernel_rfl
abbrev f9 (x : d7) : List Value := [(Value.int .i64 x.g6), (Value.int .i64 x.T4), (Value.string x.B0), (Value.slice x.P0.a x.P0.n x.P0.c)]
theorem M5 (x : d7) : (f9 x).length = 4 := rfl
theorem M6 (x : d7) : (f9 x).all (·.oneCell') = true := rfl
theorem a9f (U0 : Int) (U1 : Int) (a6J : ByteArray) (a0_3a : Option Addr) (a0_3n a0_3c : Nat) (w : World) : (Instr.buildSlice 38 1 #[(0, (Value.agg #[(Value.int .i64 U0), (Value.int .i64 U1), (Value.string a6J), (Value.slice a0_3a a0_3n a0_3c)]))]).run pG w = .ok (.slice (some ⟨w.heap.size, 0, none⟩) 1 1) (w.alloc (.cells [(Value.int .i64 U0), (Value.int .i64 U1), (Value.string a6J), (Value.slice a0_3a a0_3n a0_3c)].toArray 40)) := by kernel_rfl
theorem a4t (a0 : Int) (a3a : Option Addr) (a3n a3c : Nat) : Pu pG (xV (Instr.build 40 #[(0, (Value.int .i64 a0)), (3, (Value.slice a3a a3n a3c))])) (.agg #[(Value.int .i64 a0), (Value.int .i64 0), (Value.string ⟨#[]⟩), (Value.slice a3a a3n a3c)]) := Pu.ok fun w => by kernel_rfl
theorem b4N (a0 : Int) : Pu pG (xV (Instr.build 40 #[(0, (Value.int .i64 a0))])) (.agg #[(Value.int .i64 a0), (Value.int .i64 0), (Value.string ⟨#[]⟩), (Value.slice none 0 0)]) := Pu.ok fun w => by kernel_rfl
theorem b2L (a0 : Int) (a1 : Int) : Pu pG (xV (Instr.build 40 #[(0, (Value.int .i64 a0)), (1, (Value.int .i64 a1))])) (.agg #[(Value.int .i64 a0), (Value.int .i64 a1), (Value.string ⟨#[]⟩), (Value.slice none 0 0)]) := Pu.ok fun w => by kernel_rfl
theorem b0y (a0 : Int) (a2 : ByteArray) (a3a : Option Addr) (a3n a3c : Nat) : Pu pG (xV (Instr.build 40 #[(0, (Value.int .i64 a0)), (2, (Value.string a2)), (3, (Value.slice a3a a3n a3c))])) (.agg #[(Value.int .i64 a0), (Value.int .i64 0), (Value.string a2), (Value.slice a3a a3n a3c)]) := Pu.ok fun w => by kernel_rfl
theorem b2M (a0 : Int) (a2 : ByteArray) : Pu pG (xV (Instr.build 40 #[(0, (Value.int .i64 a0)), (2, (Value.string a2))])) (.agg #[(Value.int .i64 a0), (Value.int .i64 0), (Value.string a2), (Value.slice none 0 0)]) := Pu.ok fun w => by kernel_rfl
theorem a9g (U0 : Int) (U1 : Int) (a6J : ByteArray) (a0_3a : Option Addr) (a0_3n a0_3c : Nat) (b3j : Int) (b3k : Int) (c2j : ByteArray) (a1_3a : Option Addr) (a1_3n a1_3c : Nat) (w : World) : (Instr.buildSlice 38 2 #[(0, (Value.agg #[(Value.int .i64 U0), (Value.int .i64 U1), (Value.string a6J), (Value.slice a0_3a a0_3n a0_3c)])), (1, (Value.agg #[(Value.int .i64 b3j), (Value.int .i64 b3k), (Value.string c2j), (Value.slice a1_3a a1_3n a1_3c)]))]).run pG w = .ok (.slice (some ⟨w.heap.size, 0, none⟩) 2 2) (w.alloc (.cells [(Value.int .i64 U0), (Value.int .i64 U1), (Value.string a6J), (Value.slice a0_3a a0_3n a0_3c), (Value.int .i64 b3j), (Value.int .i64 b3k), (Value.string c2j), (Value.slice a1_3a a1_3n a1_3c)].toArray 40)) := by kernel_rfl
theorem a7r (a0 a1 a2 a3 a4 a5 : ByteArray) : Pu pG (xV (Instr.build 203 #[(0, .string a0), (1, .string a1), (2, .string a2), (3, .string a3), (4, .string a4), (5, .string a5)])) (.agg #[.string a0, .string a1, .string a2, .string a3, .string a4, .string a5]) := Pu.ok fun w => by kernel_rfl
theorem b0z (a0 : Int) (a1 : Int) (a2a : Option Addr) (a2n a2c : Nat) : Pu pG (xV (Instr.build 49 #[(0, (Value.int .i64 a0)), (1, (Value.int .i64 a1)), (2, (Value.slice a2a a2n a2c))])) (.agg #[(Value.int .i64 a0), (Value.int .i64 a1), (Value.slice a2a a2n a2c), (Value.slice none 0 0)]) := Pu.ok fun w => by kernel_rfl
theorem b1h (U0 : Int) (U1 : Int) (a0_2a : Option Addr) (a0_2n a0_2c : Nat) (a0_3a : Option Addr) (a0_3n a0_3c : Nat) (b3j : Int) (b3k : Int) (a1_2a : Option Addr) (a1_2n a1_2c : Nat) (a1_3a : Option Addr) (a1_3n a1_3c : Nat) (w : World) : (Instr.buildSlice 47 2 #[(0, (Value.agg #[(Value.int .i64 U0), (Value.int .i64 U1), (Value.slice a0_2a a0_2n a0_2c), (Value.slice a0_3a a0_3n a0_3c)])), (1, (Value.agg #[(Value.int .i64 b3j), (Value.int .i64 b3k), (Value.slice a1_2a a1_2n a1_2c), (Value.slice a1_3a a1_3n a1_3c)]))]).run pG w = .ok (.slice (some ⟨w.heap.size, 0, none⟩) 2 2) (w.alloc (.cells [(Value.int .i64 U0), (Value.int .i64 U1), (Value.slice a0_2a a0_2n a0_2c), (Value.slice a0_3a a0_3n a0_3c), (Value.int .i64 b3j), (Value.int .i64 b3k), (Value.slice a1_2a a1_2n a1_2c), (Value.slice a1_3a a1_3n a1_3c)].toArray 49)) := by kernel_rfl
abbrev t7 (x : g5) : List Value := [(Value.int .i64 x.g6), (Value.string x.B0), (Value.slice x.m5.a x.m5.n x.m5.c), (Value.slice x.A4.a x.A4.n x.A4.c), (Value.slice x.M2.a x.M2.n x.M2.c), (Value.slice x.L5.a x.L5.n x.L5.c)]
theorem a4u (x : g5) : (t7 x).length = 6 := rfl
theorem a4v (x : g5) : (t7 x).all (·.oneCell') = true := rfl
theorem b5i (U0 : Int) (U1 : ByteArray) (a0_2a : Option Addr) (a0_2n a0_2c : Nat) (a0_3a : Option Addr) (a0_3n a0_3c : Nat) (a0_4a : Option Addr) (a0_4n a0_4c : Nat) (a0_5a : Option Addr) (a0_5n a0_5c : Nat) (w : World) : (Instr.buildSlice 24 1 #[(0, (Value.agg #[(Value.int .i64 U0), (Value.string U1), (Value.slice a0_2a a0_2n a0_2c), (Value.slice a0_3a a0_3n a0_3c), (Value.slice a0_4a a0_4n a0_4c), (Value.slice a0_5a a0_5n a0_5c)]))]).run pG w = .ok (.slice (some ⟨w.heap.size, 0, none⟩) 1 1) (w.alloc (.cells [(Value.int .i64 U0), (Value.string U1), (Value.slice a0_2a a0_2n a0_2c), (Value.slice a0_3a a0_3n a0_3c), (Value.slice a0_4a a0_4n a0_4c), (Value.slice a0_5a a0_5n a0_5c)].toArray 56)) := by kernel_rfl
theorem c2k : Tryz.prog.info? 56 = some ((Tryz.prog.info? 56).getD default) := by kernel_rfl
theorem b7j {E : Pan} {w0 w : World} {ps : Nat → Prop} {H0 H : Hp} {Fs : List Frag} {K : Value → World → Prop} {s : Sl} {xs : List g5} {F : Frag} {t2 : Sl} {ys : List g5} {ks : List Bool} {ty : TypeId} (I : Inv w0 ps H0 H (F :: Fs) w) (hr : RowL 56 6 t7 s xs F) (hs : SrcO w t7 t2 ys) (hb : (xs.length + ys.length) * 121 ≤ 140737488355328) (h : ∀ (s' : Sl) (F' : Frag) (w' : World), RowL 56 6 t7 s' (xs ++ ys) F' → Inv w0 ps H0 H (F' :: Fs) w' → (∀ k, k < w.heap.size → (∀ p ∈ F, p.1 ≠ k) → w'.heap[k]? = w.heap[k]?) → K (.slice s'.a s'.n s'.c) w') : opK pG E (xBuiltin .append #[24, 24] ty ks [.slice s.a s.n s.c, .slice t2.a t2.n t2.c]) w K :=
  a9d (bytes := 120) Tryz.underlying24 c2k (z := (Value.agg #[(Value.int .i64 0), (Value.string ⟨#[]⟩), (Value.slice none 0 0), (Value.slice none 0 0), (Value.slice none 0 0), (Value.slice none 0 0)])) (by kernel_rfl) (by kernel_rfl) (by kernel_rfl) (by kernel_rfl) I hr hs hb h
theorem a6t {g o : Nat} : Pu pG (xV (Instr.fieldAt 56 (.pointer (some ⟨g, o, none⟩)) 4)) (.pointer (some ⟨g, o + 4, none⟩)) := Pu.ok fun w => by kernel_rfl
theorem a6u {g o : Nat} : Pu pG (xV (Instr.fieldAt 56 (.pointer (some ⟨g, o, none⟩)) 5)) (.pointer (some ⟨g, o + 5, none⟩)) := Pu.ok fun w => by kernel_rfl
theorem a0r {g o : Nat} : Pu pG (xV (Instr.fieldAt 56 (.pointer (some ⟨g, o, none⟩)) 0)) (.pointer (some ⟨g, o + 0, none⟩)) := Pu.ok fun w => by kernel_rfl
theorem c2l : Tryz.prog.info? 40 = some ((Tryz.prog.info? 40).getD default) := by kernel_rfl
theorem b7k {E : Pan} {w0 w : World} {ps : Nat → Prop} {H0 H : Hp} {Fs : List Frag} {K : Value → World → Prop} {s : Sl} {xs : List d7} {F : Frag} {t2 : Sl} {ys : List d7} {ks : List Bool} {ty : TypeId} (I : Inv w0 ps H0 H (F :: Fs) w) (hr : RowL 40 4 f9 s xs F) (hs : SrcO w f9 t2 ys) (hb : (xs.length + ys.length) * 57 ≤ 140737488355328) (h : ∀ (s' : Sl) (F' : Frag) (w' : World), RowL 40 4 f9 s' (xs ++ ys) F' → Inv w0 ps H0 H (F' :: Fs) w' → (∀ k, k < w.heap.size → (∀ p ∈ F, p.1 ≠ k) → w'.heap[k]? = w.heap[k]?) → K (.slice s'.a s'.n s'.c) w') : opK pG E (xBuiltin .append #[38, 38] ty ks [.slice s.a s.n s.c, .slice t2.a t2.n t2.c]) w K :=
  a9d (bytes := 56) Tryz.underlying38 c2l (z := (Value.agg #[(Value.int .i64 0), (Value.int .i64 0), (Value.string ⟨#[]⟩), (Value.slice none 0 0)])) (by kernel_rfl) (by kernel_rfl) (by kernel_rfl) (by kernel_rfl) I hr hs hb h
theorem b4O {g o : Nat} : Pu pG (xV (Instr.fieldAt 103 (.pointer (some ⟨g, o, none⟩)) 3)) (.pointer (some ⟨g, o + 3, none⟩)) := Pu.ok fun w => by kernel_rfl
theorem b8z {a : Option Addr} {g o : Nat} (ha : a = some ⟨g, o, none⟩) (len cap : Nat) (k : IntKind) (i : Int) (h0 : 0 ≤ i) (h1 : i < len) : Pu pG (xV (Instr.indexAt 23 (.slice a len cap) (.int k i))) (.pointer (some ⟨g, o + i.toNat * 2, none⟩)) := a1e Tryz.underlying23 Tryz.sizeOf68 ha len cap k i h0 h1
theorem a4Y {g o : Nat} : Pu pG (xV (Instr.fieldAt 79 (.pointer (some ⟨g, o, none⟩)) 2)) (.pointer (some ⟨g, o + 2, none⟩)) := Pu.ok fun w => by kernel_rfl
theorem b0A {g o : Nat} : Pu pG (xV (Instr.fieldAt 40 (.pointer (some ⟨g, o, none⟩)) 2)) (.pointer (some ⟨g, o + 2, none⟩)) := Pu.ok fun w => by kernel_rfl
theorem a7S {g o : Nat} : Pu pG (xV (Instr.fieldAt 49 (.pointer (some ⟨g, o, none⟩)) 1)) (.pointer (some ⟨g, o + 1, none⟩)) := Pu.ok fun w => by kernel_rfl
theorem b8A {a : Option Addr} {g o : Nat} (ha : a = some ⟨g, o, none⟩) (len cap : Nat) (k : IntKind) (i : Int) (h0 : 0 ≤ i) (h1 : i < len) : Pu pG (xV (Instr.indexAt 47 (.slice a len cap) (.int k i))) (.pointer (some ⟨g, o + i.toNat * 4, none⟩)) := a1e Tryz.underlying47 Tryz.sizeOf49 ha len cap k i h0 h1
theorem b4P {g o : Nat} : Pu pG (xV (Instr.fieldAt 101 (.pointer (some ⟨g, o, none⟩)) 0)) (.pointer (some ⟨g, o + 0, none⟩)) := Pu.ok fun w => by kernel_rfl
theorem a2p {g o : Nat} : Pu pG (xV (Instr.fieldAt 101 (.pointer (some ⟨g, o, none⟩)) 1)) (.pointer (some ⟨g, o + 1, none⟩)) := Pu.ok fun w => by kernel_rfl
theorem a8t (U0 : Int) (U1 : Int) (a1 : Int) : Pu pG (xV (Instr.build 98 #[(0, (Value.agg #[(Value.int .i64 U0), (Value.int .i64 U1)])), (1, (Value.int .i64 a1))])) (.agg #[(Value.int .i64 U0), (Value.int .i64 U1), (Value.int .i64 a1)]) := Pu.ok fun w => by kernel_rfl
theorem a9K (b9L : Int) (b9M : Int) (a_1 : Int) : Pu pG (xV (Instr.makeInterface 98 (.agg #[(Value.int .i64 b9L), (Value.int .i64 b9M), (Value.int .i64 a_1)]))) (.iface 98 (.agg #[(Value.int .i64 b9L), (Value.int .i64 b9M), (Value.int .i64 a_1)])) := Pu.ok fun w => by kernel_rfl
theorem b3l {a0 a1 a2 a3 a4 : Value} : Pu pG (xV (Instr.field 103 (.agg #[a0, a1, a2, a3, a4]) 1)) a1 := Pu.ok fun w => by kernel_rfl
theorem b3m {a0 a1 a2 a3 a4 : Value} : Pu pG (xV (Instr.field 103 (.agg #[a0, a1, a2, a3, a4]) 2)) a2 := Pu.ok fun w => by kernel_rfl
theorem a4Z {g o : Nat} : Pu pG (xV (Instr.fieldAt 56 (.pointer (some ⟨g, o, none⟩)) 1)) (.pointer (some ⟨g, o + 1, none⟩)) := Pu.ok fun w => by kernel_rfl
abbrev G0 (x : ByteArray) : List Value := [(Value.string x)]
theorem a5K (x : ByteArray) : (G0 x).length = 1 := rfl
theorem a5L (x : ByteArray) : (G0 x).all (·.oneCell') = true := rfl
theorem c0g (a0 : ByteArray) (a1 : ByteArray) (w : World) : (Instr.buildSlice 77 2 #[(0, (Value.string a0)), (1, (Value.string a1))]).run pG w = .ok (.slice (some ⟨w.heap.size, 0, none⟩) 2 2) (w.alloc (.cells [(Value.string a0), (Value.string a1)].toArray 9)) := by kernel_rfl
abbrev a7C (x : Int) : List Value := [(Value.int .i64 x)]
theorem b3n (x : Int) : (a7C x).length = 1 := rfl
theorem b3o (x : Int) : (a7C x).all (·.oneCell') = true := rfl
theorem b8B (a0 : Int) (a1 : Int) (w : World) : (Instr.buildSlice 137 2 #[(0, (Value.int .i64 a0)), (1, (Value.int .i64 a1))]).run pG w = .ok (.slice (some ⟨w.heap.size, 0, none⟩) 2 2) (w.alloc (.cells [(Value.int .i64 a0), (Value.int .i64 a1)].toArray 3)) := by kernel_rfl
theorem a3S {g o : Nat} : Pu pG (xV (Instr.fieldAt 56 (.pointer (some ⟨g, o, none⟩)) 3)) (.pointer (some ⟨g, o + 3, none⟩)) := Pu.ok fun w => by kernel_rfl
theorem b1i (a0 : Int) (c2m : Int) (c2n : Int) : Pu pG (xV (Instr.build 103 #[(0, (Value.int .i64 a0)), (3, (Value.agg #[(Value.int .i64 c2m), (Value.int .i64 c2n)]))])) (.agg #[(Value.int .i64 a0), (Value.string ⟨#[]⟩), (Value.int .i64 0), (Value.int .i64 c2m), (Value.int .i64 c2n)]) := Pu.ok fun w => by kernel_rfl
abbrev d9 (x : b7) : List Value := [(Value.int .i64 x.g6), (Value.string x.B3), (Value.int .i64 x.T4), (Value.int .i64 x.fAt.A6), (Value.int .i64 x.fAt.E7)]
theorem a3T (x : b7) : (d9 x).length = 5 := rfl
theorem a3U (x : b7) : (d9 x).all (·.oneCell') = true := rfl
theorem b5j (U0 : Int) (U1 : ByteArray) (a6J : Int) (b7l : Int) (b7m : Int) (w : World) : (Instr.buildSlice 61 1 #[(0, (Value.agg #[(Value.int .i64 U0), (Value.string U1), (Value.int .i64 a6J), (Value.int .i64 b7l), (Value.int .i64 b7m)]))]).run pG w = .ok (.slice (some ⟨w.heap.size, 0, none⟩) 1 1) (w.alloc (.cells [(Value.int .i64 U0), (Value.string U1), (Value.int .i64 a6J), (Value.int .i64 b7l), (Value.int .i64 b7m)].toArray 103)) := by kernel_rfl
theorem c0h : Tryz.prog.info? 103 = some ((Tryz.prog.info? 103).getD default) := by kernel_rfl
theorem b7n {E : Pan} {w0 w : World} {ps : Nat → Prop} {H0 H : Hp} {Fs : List Frag} {K : Value → World → Prop} {s : Sl} {xs : List b7} {F : Frag} {t2 : Sl} {ys : List b7} {ks : List Bool} {ty : TypeId} (I : Inv w0 ps H0 H (F :: Fs) w) (hr : RowL 103 5 d9 s xs F) (hs : SrcO w d9 t2 ys) (hb : (xs.length + ys.length) * 49 ≤ 140737488355328) (h : ∀ (s' : Sl) (F' : Frag) (w' : World), RowL 103 5 d9 s' (xs ++ ys) F' → Inv w0 ps H0 H (F' :: Fs) w' → (∀ k, k < w.heap.size → (∀ p ∈ F, p.1 ≠ k) → w'.heap[k]? = w.heap[k]?) → K (.slice s'.a s'.n s'.c) w') : opK pG E (xBuiltin .append #[61, 61] ty ks [.slice s.a s.n s.c, .slice t2.a t2.n t2.c]) w K :=
  a9d (bytes := 48) Tryz.underlying61 c0h (z := (Value.agg #[(Value.int .i64 0), (Value.string ⟨#[]⟩), (Value.int .i64 0), (Value.int .i64 0), (Value.int .i64 0)])) (by kernel_rfl) (by kernel_rfl) (by kernel_rfl) (by kernel_rfl) I hr hs hb h
theorem b6p {g o : Nat} : Pu pG (xV (Instr.fieldAt 68 (.pointer (some ⟨g, o, none⟩)) 0)) (.pointer (some ⟨g, o + 0, none⟩)) := Pu.ok fun w => by kernel_rfl
theorem b3p (a0a : Option Addr) (a0n a0c : Nat) (a1a : Option Addr) (a1n a1c : Nat) (w : World) : (Instr.buildSlice 172 2 #[(0, (Value.slice a0a a0n a0c)), (1, (Value.slice a1a a1n a1c))]).run pG w = .ok (.slice (some ⟨w.heap.size, 0, none⟩) 2 2) (w.alloc (.cells [(Value.slice a0a a0n a0c), (Value.slice a1a a1n a1c)].toArray 128)) := by kernel_rfl
theorem b3q (U0 : Int) (U1 : Int) (a6J : ByteArray) (a0_3a : Option Addr) (a0_3n a0_3c : Nat) : Pu pG (xV (Instr.build 141 #[(0, (Value.agg #[(Value.int .i64 U0), (Value.int .i64 U1), (Value.string a6J), (Value.slice a0_3a a0_3n a0_3c)]))])) (.agg #[(Value.int .i64 U0), (Value.int .i64 U1), (Value.string a6J), (Value.slice a0_3a a0_3n a0_3c)]) := Pu.ok fun w => by kernel_rfl
theorem a7D (x : K9) : Pu pG (xV (Instr.makeInterface 141 (.agg #[(Value.int .i64 x.t6.g6), (Value.int .i64 x.t6.T4), (Value.string x.t6.B0), (Value.slice x.t6.P0.a x.t6.P0.n x.t6.P0.c)]))) (E5 (d8.E4 x)) := Pu.ok fun w => rfl
abbrev u0 (x : d8) : List Value := [(E5 x)]
theorem Q0 (x : d8) : (u0 x).length = 1 := rfl
theorem S5 (x : d8) : (u0 x).all (·.oneCell') = true := b2K x
theorem a7T (a0 : d8) (w : World) : (Instr.buildSlice 128 1 #[(0, (E5 a0))]).run pG w = .ok (.slice (some ⟨w.heap.size, 0, none⟩) 1 1) (w.alloc (.cells [(E5 a0)].toArray 131)) := by cases a0 <;> kernel_rfl
theorem b3r (U0 : Int) (U1 : Int) (a0_2a : Option Addr) (a0_2n a0_2c : Nat) (a0_3a : Option Addr) (a0_3n a0_3c : Nat) : Pu pG (xV (Instr.build 146 #[(0, (Value.agg #[(Value.int .i64 U0), (Value.int .i64 U1), (Value.slice a0_2a a0_2n a0_2c), (Value.slice a0_3a a0_3n a0_3c)]))])) (.agg #[(Value.int .i64 U0), (Value.int .i64 U1), (Value.slice a0_2a a0_2n a0_2c), (Value.slice a0_3a a0_3n a0_3c)]) := Pu.ok fun w => by kernel_rfl
theorem b1j (x : R3) : Pu pG (xV (Instr.makeInterface 146 (.agg #[(Value.int .i64 x.q7.g6), (Value.int .i64 x.q7.fOp), (Value.slice x.q7.m5.a x.q7.m5.n x.q7.m5.c), (Value.slice x.q7.E3.a x.q7.E3.n x.q7.E3.c)]))) (E5 (d8.L1 x)) := Pu.ok fun w => rfl
theorem b1k (a0 : ByteArray) (c2o : Int) (c2p : Int) : Pu pG (xV (Instr.build 155 #[(0, (Value.string a0)), (2, (Value.agg #[(Value.int .i64 c2o), (Value.int .i64 c2p)]))])) (.agg #[(Value.string a0), (Value.int .i64 0), (Value.int .i64 c2o), (Value.int .i64 c2p), (Value.slice none 0 0)]) := Pu.ok fun w => by kernel_rfl
theorem U2 {g o : Nat} : Pu pG (xV (Instr.fieldAt 155 (.pointer (some ⟨g, o, none⟩)) 1)) (.pointer (some ⟨g, o + 1, none⟩)) := Pu.ok fun w => by kernel_rfl
theorem a4p {g o : Nat} : Pu pG (xV (Instr.fieldAt 155 (.pointer (some ⟨g, o, none⟩)) 0)) (.pointer (some ⟨g, o + 0, none⟩)) := Pu.ok fun w => by kernel_rfl
theorem a3l {g o : Nat} : Pu pG (xV (Instr.fieldAt 155 (.pointer (some ⟨g, o, none⟩)) 2)) (.pointer (some ⟨g, o + 2, none⟩)) := Pu.ok fun w => by kernel_rfl
theorem b0B {g o : Nat} : Pu pG (xV (Instr.fieldAt 28 (.pointer (some ⟨g, o, none⟩)) 1)) (.pointer (some ⟨g, o + 1, none⟩)) := Pu.ok fun w => by kernel_rfl
theorem b6q {g o : Nat} : Pu pG (xV (Instr.fieldAt 28 (.pointer (some ⟨g, o, none⟩)) 0)) (.pointer (some ⟨g, o + 0, none⟩)) := Pu.ok fun w => by kernel_rfl
theorem a5M {g o : Nat} : Pu pG (xV (Instr.fieldAt 155 (.pointer (some ⟨g, o, none⟩)) 3)) (.pointer (some ⟨g, o + 4, none⟩)) := Pu.ok fun w => by kernel_rfl
theorem c0i (s : ByteArray) (k : IntKind) (i : Int) (h0 : 0 ≤ i) (h1 : i < s.size) : Pu pG (xV (Instr.index 9 (.string s) (.int k i))) (.int .u8 ((s.get! i.toNat).toNat : Int)) := b3e _ s k i Tryz.underlying9 h0 h1
theorem a3V (a0 : Int) (a1 : ByteArray) : Pu pG (xV (Instr.build 103 #[(0, (Value.int .i64 a0)), (1, (Value.string a1))])) (.agg #[(Value.int .i64 a0), (Value.string a1), (Value.int .i64 0), (Value.int .i64 0), (Value.int .i64 0)]) := Pu.ok fun w => by kernel_rfl
theorem b0C  : Pu pG (xV (Instr.build 103 #[])) (.agg #[(Value.int .i64 0), (Value.string ⟨#[]⟩), (Value.int .i64 0), (Value.int .i64 0), (Value.int .i64 0)]) := Pu.ok fun w => by kernel_rfl
theorem b7o  : Pu pG (xV (Instr.build 79 #[])) (.agg #[(Value.int .i64 0), (Value.int .i64 0), (Value.int .i64 0), (Value.bool false), (Value.bool false), (Value.slice none 0 0)]) := Pu.ok fun w => by kernel_rfl
theorem a6v (a : Option Addr) (n c : Nat) : Pu pG (xBuiltin .len #[128] 3 [false] [.slice a n c]) (.int .i64 (n : Int)) := a0z Tryz.underlying128 a n c
theorem b7p {a : Option Addr} {g o : Nat} (ha : a = some ⟨g, o, none⟩) (len cap : Nat) (k : IntKind) (i : Int) (h0 : 0 ≤ i) (h1 : i < len) : Pu pG (xV (Instr.indexAt 128 (.slice a len cap) (.int k i))) (.pointer (some ⟨g, o + i.toNat * 1, none⟩)) := a1e Tryz.underlying128 Tryz.sizeOf131 ha len cap k i h0 h1
theorem a7U {g o : Nat} : Pu pG (xV (Instr.fieldAt 79 (.pointer (some ⟨g, o, none⟩)) 0)) (.pointer (some ⟨g, o + 0, none⟩)) := Pu.ok fun w => by kernel_rfl
theorem b0D {g o : Nat} : Pu pG (xV (Instr.fieldAt 79 (.pointer (some ⟨g, o, none⟩)) 1)) (.pointer (some ⟨g, o + 1, none⟩)) := Pu.ok fun w => by kernel_rfl
theorem a7V {g o : Nat} : Pu pG (xV (Instr.fieldAt 79 (.pointer (some ⟨g, o, none⟩)) 3)) (.pointer (some ⟨g, o + 3, none⟩)) := Pu.ok fun w => by kernel_rfl
theorem a7W {g o : Nat} : Pu pG (xV (Instr.fieldAt 79 (.pointer (some ⟨g, o, none⟩)) 4)) (.pointer (some ⟨g, o + 4, none⟩)) := Pu.ok fun w => by kernel_rfl
theorem a7X {g o : Nat} : Pu pG (xV (Instr.fieldAt 79 (.pointer (some ⟨g, o, none⟩)) 5)) (.pointer (some ⟨g, o + 5, none⟩)) := Pu.ok fun w => by kernel_rfl
theorem c0j (a0 : ByteArray) (w : World) : (Instr.buildSlice 77 1 #[(0, (Value.string a0))]).run pG w = .ok (.slice (some ⟨w.heap.size, 0, none⟩) 1 1) (w.alloc (.cells [(Value.string a0)].toArray 9)) := by kernel_rfl
theorem c5o : Tryz.prog.info? 9 = some ((Tryz.prog.info? 9).getD default) := by kernel_rfl
theorem c2q {E : Pan} {w0 w : World} {ps : Nat → Prop} {H0 H : Hp} {Fs : List Frag} {K : Value → World → Prop} {s : Sl} {xs : List ByteArray} {F : Frag} {t2 : Sl} {ys : List ByteArray} {ks : List Bool} {ty : TypeId} (I : Inv w0 ps H0 H (F :: Fs) w) (hr : RowL 9 1 G0 s xs F) (hs : SrcO w G0 t2 ys) (hb : (xs.length + ys.length) * 17 ≤ 140737488355328) (h : ∀ (s' : Sl) (F' : Frag) (w' : World), RowL 9 1 G0 s' (xs ++ ys) F' → Inv w0 ps H0 H (F' :: Fs) w' → (∀ k, k < w.heap.size → (∀ p ∈ F, p.1 ≠ k) → w'.heap[k]? = w.heap[k]?) → K (.slice s'.a s'.n s'.c) w') : opK pG E (xBuiltin .append #[77, 77] ty ks [.slice s.a s.n s.c, .slice t2.a t2.n t2.c]) w K :=
  a9d (bytes := 16) Tryz.underlying77 c5o (z := (Value.string ⟨#[]⟩)) (by kernel_rfl) (by kernel_rfl) (by kernel_rfl) (by kernel_rfl) I hr hs hb h
theorem b0E (a : Option Addr) (n c : Nat) : Pu pG (xBuiltin .len #[172] 3 [false] [.slice a n c]) (.int .i64 (n : Int)) := a0z Tryz.underlying172 a n c
theorem b2m {a : Option Addr} {g o : Nat} (ha : a = some ⟨g, o, none⟩) (len cap : Nat) (k : IntKind) (i : Int) (h0 : 0 ≤ i) (h1 : i < len) : Pu pG (xV (Instr.indexAt 172 (.slice a len cap) (.int k i))) (.pointer (some ⟨g, o + i.toNat * 1, none⟩)) := a1e Tryz.underlying172 Tryz.sizeOf128 ha len cap k i h0 h1
theorem b7q (s : ByteArray) : Pu pG (xV (Instr.makeInterface 9 (.string s))) (.iface 9 (.string s)) := Pu.ok fun w => by kernel_rfl
theorem b5k : Tryz.prog.info? 131 = some ((Tryz.prog.info? 131).getD default) := by kernel_rfl
theorem a7E {E : Pan} {w0 w : World} {ps : Nat → Prop} {H0 H : Hp} {Fs : List Frag} {K : Value → World → Prop} {s : Sl} {xs : List d8} {F : Frag} {t2 : Sl} {ys : List d8} {ks : List Bool} {ty : TypeId} (I : Inv w0 ps H0 H (F :: Fs) w) (hr : RowL 131 1 u0 s xs F) (hs : SrcO w u0 t2 ys) (hb : (xs.length + ys.length) * 17 ≤ 140737488355328) (h : ∀ (s' : Sl) (F' : Frag) (w' : World), RowL 131 1 u0 s' (xs ++ ys) F' → Inv w0 ps H0 H (F' :: Fs) w' → (∀ k, k < w.heap.size → (∀ p ∈ F, p.1 ≠ k) → w'.heap[k]? = w.heap[k]?) → K (.slice s'.a s'.n s'.c) w') : opK pG E (xBuiltin .append #[128, 128] ty ks [.slice s.a s.n s.c, .slice t2.a t2.n t2.c]) w K :=
  a9d (bytes := 16) Tryz.underlying128 b5k (z := Value.nilIface) (by kernel_rfl) (by kernel_rfl) (by kernel_rfl) (by kernel_rfl) I hr hs hb h
theorem b3s (U0 : ByteArray) (U1 : Int) : Pu pG (xV (Instr.build 175 #[(0, (Value.agg #[(Value.string U0), (Value.int .i64 U1)]))])) (.agg #[(Value.string U0), (Value.int .i64 U1)]) := Pu.ok fun w => by kernel_rfl
theorem b1l (x : U3) : Pu pG (xV (Instr.makeInterface 175 (.agg #[(Value.string x.V1.B0), (Value.int .i64 x.V1.a3t)]))) (E5 (d8.K0 x)) := Pu.ok fun w => rfl
theorem b3t (U0 : Int) (U1 : ByteArray) (a0_2a : Option Addr) (a0_2n a0_2c : Nat) (a0_3a : Option Addr) (a0_3n a0_3c : Nat) (a0_4a : Option Addr) (a0_4n a0_4c : Nat) (a0_5a : Option Addr) (a0_5n a0_5c : Nat) : Pu pG (xV (Instr.build 177 #[(0, (Value.agg #[(Value.int .i64 U0), (Value.string U1), (Value.slice a0_2a a0_2n a0_2c), (Value.slice a0_3a a0_3n a0_3c), (Value.slice a0_4a a0_4n a0_4c), (Value.slice a0_5a a0_5n a0_5c)]))])) (.agg #[(Value.int .i64 U0), (Value.string U1), (Value.slice a0_2a a0_2n a0_2c), (Value.slice a0_3a a0_3n a0_3c), (Value.slice a0_4a a0_4n a0_4c), (Value.slice a0_5a a0_5n a0_5c)]) := Pu.ok fun w => by kernel_rfl
theorem b1m (x : R4) : Pu pG (xV (Instr.makeInterface 177 (.agg #[(Value.int .i64 x.i8.g6), (Value.string x.i8.B0), (Value.slice x.i8.m5.a x.i8.m5.n x.i8.m5.c), (Value.slice x.i8.A4.a x.i8.A4.n x.i8.A4.c), (Value.slice x.i8.M2.a x.i8.M2.n x.i8.M2.c), (Value.slice x.i8.L5.a x.i8.L5.n x.i8.L5.c)]))) (E5 (d8.F0 x)) := Pu.ok fun w => rfl
theorem a9L {g o : Nat} : Pu pG (xV (Instr.fieldAt 139 (.pointer (some ⟨g, o, none⟩)) 2)) (.pointer (some ⟨g, o + 2, none⟩)) := Pu.ok fun w => by kernel_rfl
theorem c0k (a0 : ByteArray) (a1 : ByteArray) (a2 : ByteArray) (w : World) : (Instr.buildSlice 77 3 #[(0, (Value.string a0)), (1, (Value.string a1)), (2, (Value.string a2))]).run pG w = .ok (.slice (some ⟨w.heap.size, 0, none⟩) 3 3) (w.alloc (.cells [(Value.string a0), (Value.string a1), (Value.string a2)].toArray 9)) := by kernel_rfl
theorem b8C (a0 : Int) (a1 : Int) (a2 : Int) (w : World) : (Instr.buildSlice 137 3 #[(0, (Value.int .i64 a0)), (1, (Value.int .i64 a1)), (2, (Value.int .i64 a2))]).run pG w = .ok (.slice (some ⟨w.heap.size, 0, none⟩) 3 3) (w.alloc (.cells [(Value.int .i64 a0), (Value.int .i64 a1), (Value.int .i64 a2)].toArray 3)) := by kernel_rfl
theorem a6K (a0 a1 a2 a3 a4 a5 a6 : ByteArray) : Pu pG (xV (Instr.build 195 #[(0, .string a0), (1, .string a1), (2, .string a2), (3, .string a3), (4, .string a4), (5, .string a5), (6, .string a6)])) (.agg #[.string a0, .string a1, .string a2, .string a3, .string a4, .string a5, .string a6]) := Pu.ok fun w => by kernel_rfl
theorem b6r (a0 a1 a2 a3 a4 a5 a6 : ByteArray) (k : IntKind) (i : Int) (h0 : 0 ≤ i) (h1 : i < 7) : Pu pG (xV (Instr.index 195 (.agg #[.string a0, .string a1, .string a2, .string a3, .string a4, .string a5, .string a6]) (.int k i))) (.string (([a0, a1, a2, a3, a4, a5, a6] : List ByteArray).getD i.toNat ⟨#[]⟩)) := by
  obtain rfl | rfl | rfl | rfl | rfl | rfl | rfl := (by omega : i = 0 ∨ i = 1 ∨ i = 2 ∨ i = 3 ∨ i = 4 ∨ i = 5 ∨ i = 6)
  · exact Pu.ok fun w => by kernel_rfl
  · exact Pu.ok fun w => by kernel_rfl
  · exact Pu.ok fun w => by kernel_rfl
  · exact Pu.ok fun w => by kernel_rfl
  · exact Pu.ok fun w => by kernel_rfl
  · exact Pu.ok fun w => by kernel_rfl
  · exact Pu.ok fun w => by kernel_rfl
theorem b4Q {g o : Nat} : Pu pG (xV (Instr.fieldAt 139 (.pointer (some ⟨g, o, none⟩)) 0)) (.pointer (some ⟨g, o + 0, none⟩)) := Pu.ok fun w => by kernel_rfl
theorem b7r (a : Option Addr) (n c : Nat) : Pu pG (xBuiltin .len #[77] 3 [false] [.slice a n c]) (.int .i64 (n : Int)) := a0z Tryz.underlying77 a n c
theorem b3u {a : Option Addr} {g o : Nat} (ha : a = some ⟨g, o, none⟩) (len cap : Nat) (k : IntKind) (i : Int) (h0 : 0 ≤ i) (h1 : i < len) : Pu pG (xV (Instr.indexAt 77 (.slice a len cap) (.int k i))) (.pointer (some ⟨g, o + i.toNat * 1, none⟩)) := a1e Tryz.underlying77 Tryz.sizeOf9 ha len cap k i h0 h1
theorem b4R {g o : Nat} : Pu pG (xV (Instr.fieldAt 139 (.pointer (some ⟨g, o, none⟩)) 1)) (.pointer (some ⟨g, o + 1, none⟩)) := Pu.ok fun w => by kernel_rfl
theorem b7s {a : Option Addr} {g o : Nat} (ha : a = some ⟨g, o, none⟩) (len cap : Nat) (k : IntKind) (i : Int) (h0 : 0 ≤ i) (h1 : i < len) : Pu pG (xV (Instr.indexAt 137 (.slice a len cap) (.int k i))) (.pointer (some ⟨g, o + i.toNat * 1, none⟩)) := a1e Tryz.underlying137 Tryz.sizeOf3 ha len cap k i h0 h1
theorem b6s (x : Operand) {v : Value} (h : okI v) : Pu pG (xBin .neq 200 x (.const Value.nilIface) v Value.nilIface) (.bool (!isNilI v)) := b8x _ _ (by kernel_rfl) h
theorem b6t (a0 a1 a2 a3 a4 a5 : ByteArray) (k : IntKind) (i : Int) (h0 : 0 ≤ i) (h1 : i < 6) : Pu pG (xV (Instr.index 203 (.agg #[.string a0, .string a1, .string a2, .string a3, .string a4, .string a5]) (.int k i))) (.string (([a0, a1, a2, a3, a4, a5] : List ByteArray).getD i.toNat ⟨#[]⟩)) := by
  obtain rfl | rfl | rfl | rfl | rfl | rfl := (by omega : i = 0 ∨ i = 1 ∨ i = 2 ∨ i = 3 ∨ i = 4 ∨ i = 5)
  · exact Pu.ok fun w => by kernel_rfl
  · exact Pu.ok fun w => by kernel_rfl
  · exact Pu.ok fun w => by kernel_rfl
  · exact Pu.ok fun w => by kernel_rfl
  · exact Pu.ok fun w => by kernel_rfl
  · exact Pu.ok fun w => by kernel_rfl
theorem b2N (x : d8) : Pu pG (xV (Instr.typeAssert (E5 x) 131 175 true)) (.tuple #[(Value.agg #[(Value.string ((((x.W6)).V1).B0)), (Value.int .i64 ((((x.W6)).V1).a3t))]), .bool (x.a3Q)]) := by
  cases x <;> exact Pu.ok fun w => by kernel_rfl
theorem a7s {g o : Nat} : Pu pG (xV (Instr.fieldAt 175 (.pointer (some ⟨g, o, none⟩)) 0)) (.pointer (some ⟨g, o + 0, none⟩)) := Pu.ok fun w => by kernel_rfl
theorem b2O (x : d8) : Pu pG (xV (Instr.typeAssert (E5 x) 131 177 true)) (.tuple #[(Value.agg #[(Value.int .i64 ((((x.r7)).i8).g6)), (Value.string ((((x.r7)).i8).B0)), (Value.slice ((((x.r7)).i8).m5).a ((((x.r7)).i8).m5).n ((((x.r7)).i8).m5).c), (Value.slice ((((x.r7)).i8).A4).a ((((x.r7)).i8).A4).n ((((x.r7)).i8).A4).c), (Value.slice ((((x.r7)).i8).M2).a ((((x.r7)).i8).M2).n ((((x.r7)).i8).M2).c), (Value.slice ((((x.r7)).i8).L5).a ((((x.r7)).i8).L5).n ((((x.r7)).i8).L5).c)]), .bool (x.a3R)]) := by
  cases x <;> exact Pu.ok fun w => by kernel_rfl
theorem L9 {g o : Nat} : Pu pG (xV (Instr.fieldAt 177 (.pointer (some ⟨g, o, none⟩)) 0)) (.pointer (some ⟨g, o + 0, none⟩)) := Pu.ok fun w => by kernel_rfl
theorem b2P (x : d8) : Pu pG (xV (Instr.typeAssert (E5 x) 131 141 true)) (.tuple #[(Value.agg #[(Value.int .i64 ((((x.C2)).t6).g6)), (Value.int .i64 ((((x.C2)).t6).T4)), (Value.string ((((x.C2)).t6).B0)), (Value.slice ((((x.C2)).t6).P0).a ((((x.C2)).t6).P0).n ((((x.C2)).t6).P0).c)]), .bool (x.a3P)]) := by
  cases x <;> exact Pu.ok fun w => by kernel_rfl
theorem Y0 {g o : Nat} : Pu pG (xV (Instr.fieldAt 141 (.pointer (some ⟨g, o, none⟩)) 0)) (.pointer (some ⟨g, o + 0, none⟩)) := Pu.ok fun w => by kernel_rfl
theorem a0s {g o : Nat} : Pu pG (xV (Instr.fieldAt 146 (.pointer (some ⟨g, o, none⟩)) 0)) (.pointer (some ⟨g, o + 0, none⟩)) := Pu.ok fun w => by kernel_rfl
theorem a3W (a0 : Int) (a1 : Int) : Pu pG (xV (Instr.build 260 #[(0, (Value.int .i64 a0)), (1, (Value.int .i64 a1))])) (.agg #[(Value.int .i64 a0), (Value.int .i64 a1)]) := Pu.ok fun w => by kernel_rfl
theorem c0l (d : Nat) (a0 b0 : Int) (a1 b1 : Int) (w : World) : (Op.equalIn (d + 2) 260 (.agg #[(Value.int .i64 a0), (Value.int .i64 a1)]) (.agg #[(Value.int .i64 b0), (Value.int .i64 b1)])).run pG w = .ok (decide (a0 = b0 ∧ a1 = b1)) w := by
  have u3 := Tryz.underlying3
  have i3 := Tryz.isAgg3
  have s3 := Tryz.sizeOf3
  have hS : Tryz.prog.underlying 260 = some (.struct (Tryz.prog.fieldsOf 260)) := by kernel_rfl
  rw [run_equalIn_agg w (d + 1) 260 _ _ hS (by kernel_rfl)]
  simp only [Program.fieldsOf, Tryz.underlying260]
  go_simp
  try simp only [a9S]
  by_cases h0 : a0 = b0
  · by_cases h1 : a1 = b1
    · simp [h0, h1]
    · simp [h0, h1]
  · simp [h0]
theorem a7g (x y : Operand) (a0 b0 : Int) (a1 b1 : Int) : Pu pG (xBin .eql 260 x y (.agg #[(Value.int .i64 a0), (Value.int .i64 a1)]) (.agg #[(Value.int .i64 b0), (Value.int .i64 b1)])) (.bool (decide (a0 = b0 ∧ a1 = b1))) := by
  refine Pu.ok (s := do eqGuard .eql 260 x y (.agg #[(Value.int .i64 a0), (Value.int .i64 a1)]) (.agg #[(Value.int .i64 b0), (Value.int .i64 b1)]); binOp .eql 260 (.agg #[(Value.int .i64 a0), (Value.int .i64 a1)]) (.agg #[(Value.int .i64 b0), (Value.int .i64 b1)])) fun w => ?_
  rw [Sem.run_bind, run_eqGuard_agg w _ _ _ _ _ _ (by kernel_rfl), Result.andThen_ok, run_eql_struct, show (10000 : Nat) = 9998 + 2 from rfl, c0l]
  rfl
theorem b6u  : Pu pG (xV (Instr.build 260 #[])) (.agg #[(Value.int .i64 0), (Value.int .i64 0)]) := Pu.ok fun w => by kernel_rfl
theorem a1j (a0 : Int) (a1 : Int) : Pu pG (xV (Instr.build 264 #[(0, (Value.int .i64 a0)), (1, (Value.int .i64 a1))])) (.agg #[(Value.int .i64 a0), (Value.int .i64 a1)]) := Pu.ok fun w => by kernel_rfl
theorem c0m (d : Nat) (a0 b0 : Int) (a1 b1 : Int) (w : World) : (Op.equalIn (d + 2) 264 (.agg #[(Value.int .i64 a0), (Value.int .i64 a1)]) (.agg #[(Value.int .i64 b0), (Value.int .i64 b1)])).run pG w = .ok (decide (a0 = b0 ∧ a1 = b1)) w := by
  have u3 := Tryz.underlying3
  have i3 := Tryz.isAgg3
  have s3 := Tryz.sizeOf3
  have hS : Tryz.prog.underlying 264 = some (.struct (Tryz.prog.fieldsOf 264)) := by kernel_rfl
  rw [run_equalIn_agg w (d + 1) 264 _ _ hS (by kernel_rfl)]
  simp only [Program.fieldsOf, Tryz.underlying264]
  go_simp
  try simp only [a9S]
  by_cases h0 : a0 = b0
  · by_cases h1 : a1 = b1
    · simp [h0, h1]
    · simp [h0, h1]
  · simp [h0]
theorem a4F (x y : Operand) (a0 b0 : Int) (a1 b1 : Int) : Pu pG (xBin .eql 264 x y (.agg #[(Value.int .i64 a0), (Value.int .i64 a1)]) (.agg #[(Value.int .i64 b0), (Value.int .i64 b1)])) (.bool (decide (a0 = b0 ∧ a1 = b1))) := by
  refine Pu.ok (s := do eqGuard .eql 264 x y (.agg #[(Value.int .i64 a0), (Value.int .i64 a1)]) (.agg #[(Value.int .i64 b0), (Value.int .i64 b1)]); binOp .eql 264 (.agg #[(Value.int .i64 a0), (Value.int .i64 a1)]) (.agg #[(Value.int .i64 b0), (Value.int .i64 b1)])) fun w => ?_
  rw [Sem.run_bind, run_eqGuard_agg w _ _ _ _ _ _ (by kernel_rfl), Result.andThen_ok, run_eql_struct, show (10000 : Nat) = 9998 + 2 from rfl, c0m]
  rfl
theorem b6v  : Pu pG (xV (Instr.build 264 #[])) (.agg #[(Value.int .i64 0), (Value.int .i64 0)]) := Pu.ok fun w => by kernel_rfl
theorem b8D (a0a : Option Addr) (a0n a0c : Nat) (a1a : Option Addr) (a1n a1c : Nat) (a2a : Option Addr) (a2n a2c : Nat) (a3a : Option Addr) (a3n a3c : Nat) (w : World) : (Instr.buildSlice 172 4 #[(0, (Value.slice a0a a0n a0c)), (1, (Value.slice a1a a1n a1c)), (2, (Value.slice a2a a2n a2c)), (3, (Value.slice a3a a3n a3c))]).run pG w = .ok (.slice (some ⟨w.heap.size, 0, none⟩) 4 4) (w.alloc (.cells [(Value.slice a0a a0n a0c), (Value.slice a1a a1n a1c), (Value.slice a2a a2n a2c), (Value.slice a3a a3n a3c)].toArray 128)) := by kernel_rfl
abbrev p9 (x : l9) : List Value := [(Value.slice x.a3A.a x.a3A.n x.a3A.c), (Value.slice x.a2f.a x.a2f.n x.a2f.c)]
abbrev j9 (x : c8) : List Value := [(Value.int .i64 x.A6), (Value.int .i64 x.E7)]
abbrev l0 (x : b8) : List Value := [(Value.slice x.fl.a x.fl.n x.fl.c), (Value.int .i64 x.fat), (Value.int .i64 x.fbad), (Value.int .i64 x.fpos.A6), (Value.int .i64 x.fpos.E7)]
abbrev a7F (x : l7) : List Value := [(Value.int .i64 x.fnodes), (Value.int .i64 x.fdepth), (Value.int .i64 x.fe), (Value.bool x.fform), (Value.bool x.fnamed), (Value.slice x.fnames.a x.fnames.n x.fnames.c)]
abbrev b9 (x : b6) : List Value := [(Value.slice x.fl.a x.fl.n x.fl.c), (Value.int .i64 x.fn)]
abbrev S6 (x : a0A) : List Value := [(Value.slice x.fsigns.a x.fsigns.n x.fsigns.c), (Value.slice x.fkinds.a x.fkinds.n x.fkinds.c), x.fpart]
end Go.Proofs.YthklmeihgmcljaaGreatDoor
