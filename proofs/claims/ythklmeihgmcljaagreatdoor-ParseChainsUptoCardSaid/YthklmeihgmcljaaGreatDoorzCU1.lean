/- Single operations at this program's types, and its structures; printed by lift.py. -/
import Derived.KernelRfl
import Derived.Laws.StructEq
import Derived.Laws.Cover2
import Derived.Test.YthklmeihgmcljaaGreatDoorzCS5
import Derived.Test.YthklmeihgmcljaaGreatDoorzCGz
namespace Go.Proofs.YthklmeihgmcljaaGreatDoor
open Go.RowKit
set_option maxRecDepth 100000
set_option maxHeartbeats 2000000
structure l7 where
  a3z : Sl
  a2K : Sl
structure b9 where
  v7 : Int
  C8 : Int
structure b7 where
  f7 : Int
  N6 : Int
  A7 : ByteArray
  E4 : Sl
structure f8 where
  f7 : Int
  fOp : Int
  l8 : Sl
  E2 : Sl
structure g5 where
  f7 : Int
  A7 : ByteArray
  l8 : Sl
  z7 : Sl
  M3 : Sl
  L6 : Sl
structure b8 where
  fl : Sl
  fat : Int
  fbad : Int
  fpos : b9
structure b5 where
  f7 : Int
  A8 : ByteArray
  N6 : Int
  fAt : b9
structure l0 where
  A7 : ByteArray
  a3u : Int
structure L4 where
  f0 : ByteArray
  f1 : ByteArray
  f2 : ByteArray
  f3 : ByteArray
  f4 : ByteArray
  f5 : ByteArray
structure k7 where
  fnodes : Int
  fdepth : Int
  fe : Int
  fform : Bool
  fnamed : Bool
  fnames : Sl
structure a8 where
  fl : Sl
  fn : Int
structure c2t where
  fat : b9
  fe : Int
structure a9W where
  fn : Int
  fdepth : Int
  fbad : Int
structure a9X where
  fok : Bool
  fnames : Bool
structure F0 where
  s6 : b7
structure R1 where
  o9 : f8
structure d6 where
  fs : ByteArray
  fn : Int
  fat : b9
  fl : Sl
structure U5 where
  V1 : l0
structure R3 where
  i7 : g5
structure a0z where
  fsigns : Sl
  fkinds : Sl
  fpart : Value
structure J5 where
  f0 : ByteArray
  f1 : ByteArray
  f2 : ByteArray
  f3 : ByteArray
  f4 : ByteArray
  f5 : ByteArray
  f6 : ByteArray
structure F6 where
  fexprs : Int
  fparts : Int
structure N9 where
  fexprs : Int
  fconds : Int
abbrev q8 (x : d6) (s0 : Sl) : List Value := [(Value.string x.fs), (vi x.fn), (vi x.fat.v7), (vi x.fat.C8), (vs s0)]
abbrev p6 (x : d6) : d6 := d6.mk x.fs x.fn x.fat (Sl.mk none 0 0)
abbrev Z4 (x : k7) (s0 : Sl) : List Value := [(vi x.fnodes), (vi x.fdepth), (vi x.fe), (Value.bool x.fform), (Value.bool x.fnamed), (vs s0)]
abbrev Y2 (x : k7) : k7 := k7.mk x.fnodes x.fdepth x.fe x.fform x.fnamed (Sl.mk none 0 0)
inductive d7 where
  | nil
  | D1 (x : F0)
  | L2 (x : R1)
  | K2 (x : U5)
  | E9 (x : R3)
def E3 : d7 → Value
  | .nil => .nilIface
  | .D1 x => .iface 141 (.agg #[(Value.int .i64 x.s6.f7), (Value.int .i64 x.s6.N6), (Value.string x.s6.A7), (Value.slice x.s6.E4.a x.s6.E4.n x.s6.E4.c)])
  | .L2 x => .iface 146 (.agg #[(Value.int .i64 x.o9.f7), (Value.int .i64 x.o9.fOp), (Value.slice x.o9.l8.a x.o9.l8.n x.o9.l8.c), (Value.slice x.o9.E2.a x.o9.E2.n x.o9.E2.c)])
  | .K2 x => .iface 175 (.agg #[(Value.string x.V1.A7), (Value.int .i64 x.V1.a3u)])
  | .E9 x => .iface 177 (.agg #[(Value.int .i64 x.i7.f7), (Value.string x.i7.A7), (Value.slice x.i7.l8.a x.i7.l8.n x.i7.l8.c), (Value.slice x.i7.z7.a x.i7.z7.n x.i7.z7.c), (Value.slice x.i7.M3.a x.i7.M3.n x.i7.M3.c), (Value.slice x.i7.L6.a x.i7.L6.n x.i7.L6.c)])
theorem b2T (x : d7) : [E3 x].all (·.oneCell') = true := by cases x <;> rfl
def d7.B9 : d7 → F0
  | .D1 x => x
  | _ => (F0.mk (b7.mk 0 0 ⟨#[]⟩ (Sl.mk none 0 0)))
def d7.a3O : d7 → Bool
  | .D1 _ => true
  | _ => false
def d7.W5 : d7 → U5
  | .K2 x => x
  | _ => (U5.mk (l0.mk ⟨#[]⟩ 0))
def d7.a3P : d7 → Bool
  | .K2 _ => true
  | _ => false
def d7.p8 : d7 → R3
  | .E9 x => x
  | _ => (R3.mk (g5.mk 0 ⟨#[]⟩ (Sl.mk none 0 0) (Sl.mk none 0 0) (Sl.mk none 0 0) (Sl.mk none 0 0)))
def d7.a3Q : d7 → Bool
  | .E9 _ => true
  | _ => false
theorem c2u (d : Nat) (a0 b0 : Int) (a1 b1 : Int) (w : World) : (Op.equalIn (d + 2) 28 (.agg #[(Value.int .i64 a0), (Value.int .i64 a1)]) (.agg #[(Value.int .i64 b0), (Value.int .i64 b1)])).run pG w = .ok (decide (a0 = b0 ∧ a1 = b1)) w := by
  have u3 := Tryz.underlying3
  have i3 := Tryz.isAgg3
  have s3 := Tryz.sizeOf3
  have hS : Tryz.prog.underlying 28 = some (.struct (Tryz.prog.fieldsOf 28)) := by kernel_rfl
  rw [run_equalIn_agg w (d + 1) 28 _ _ hS (by kernel_rfl)]
  simp only [Program.fieldsOf, Tryz.underlying28]
  go_simp
  try simp only [a9V]
  by_cases h0 : a0 = b0
  · by_cases h1 : a1 = b1
    · simp [h0, h1]
    · simp [h0, h1]
  · simp [h0]
theorem b8H (x y : Operand) (a0 b0 : Int) (a1 b1 : Int) : Pu pG (xBin .eql 28 x y (.agg #[(Value.int .i64 a0), (Value.int .i64 a1)]) (.agg #[(Value.int .i64 b0), (Value.int .i64 b1)])) (.bool (decide (a0 = b0 ∧ a1 = b1))) := by
  refine Pu.ok (s := do eqGuard .eql 28 x y (.agg #[(Value.int .i64 a0), (Value.int .i64 a1)]) (.agg #[(Value.int .i64 b0), (Value.int .i64 b1)]); binOp .eql 28 (.agg #[(Value.int .i64 a0), (Value.int .i64 a1)]) (.agg #[(Value.int .i64 b0), (Value.int .i64 b1)])) fun w => ?_
  rw [Sem.run_bind, run_eqGuard_agg w _ _ _ _ _ _ (by kernel_rfl), Result.andThen_ok, run_eql_struct, show (10000 : Nat) = 9998 + 2 from rfl, c2u]
  rfl
theorem a6r {g o : Nat} : Pu pG (xV (Instr.fieldAt 26 (.pointer (some ⟨g, o, none⟩)) 0)) (.pointer (some ⟨g, o + 0, none⟩)) := Pu.ok fun w => by kernel_rfl
theorem b2r (a : Option Addr) (n c : Nat) : Pu pG (xBuiltin .len #[23] 3 [false] [.slice a n c]) (.int .i64 (n : Int)) := a0x Tryz.underlying23 a n c
theorem a3R {g o : Nat} : Pu pG (xV (Instr.fieldAt 26 (.pointer (some ⟨g, o, none⟩)) 1)) (.pointer (some ⟨g, o + 1, none⟩)) := Pu.ok fun w => by kernel_rfl
theorem a5S (a : Option Addr) (n c : Nat) : Pu pG (xBuiltin .len #[24] 3 [false] [.slice a n c]) (.int .i64 (n : Int)) := a0x Tryz.underlying24 a n c
theorem b7o  : Pu pG (xV (Instr.build 28 #[])) (.agg #[(Value.int .i64 0), (Value.int .i64 0)]) := Pu.ok fun w => by kernel_rfl
theorem a5o (s : ByteArray) : Pu pG (xBuiltin .len #[9] 3 [false] [.string s]) (.int .i64 (s.size : Int)) := b6m _ _ s Tryz.underlying9
theorem a8s (a0 : Int) (a1 : Int) : Pu pG (xV (Instr.build 28 #[(0, (Value.int .i64 a0)), (1, (Value.int .i64 a1))])) (.agg #[(Value.int .i64 a0), (Value.int .i64 a1)]) := Pu.ok fun w => by kernel_rfl
theorem a2f {g o : Nat} : Pu pG (xV (Instr.fieldAt 40 (.pointer (some ⟨g, o, none⟩)) 0)) (.pointer (some ⟨g, o + 0, none⟩)) := Pu.ok fun w => by kernel_rfl
theorem a3S {g o : Nat} : Pu pG (xV (Instr.fieldAt 40 (.pointer (some ⟨g, o, none⟩)) 3)) (.pointer (some ⟨g, o + 3, none⟩)) := Pu.ok fun w => by kernel_rfl
theorem a4E (a : Option Addr) (n c : Nat) : Pu pG (xBuiltin .len #[38] 3 [false] [.slice a n c]) (.int .i64 (n : Int)) := a0x Tryz.underlying38 a n c
theorem a6L {a : Option Addr} {g o : Nat} (ha : a = some ⟨g, o, none⟩) (len cap : Nat) (k : IntKind) (i : Int) (h0 : 0 ≤ i) (h1 : i < len) : Pu pG (xV (Instr.indexAt 38 (.slice a len cap) (.int k i))) (.pointer (some ⟨g, o + i.toNat * 4, none⟩)) := a1e Tryz.underlying38 Tryz.sizeOf40 ha len cap k i h0 h1
theorem a6s {g o : Nat} : Pu pG (xV (Instr.fieldAt 40 (.pointer (some ⟨g, o, none⟩)) 1)) (.pointer (some ⟨g, o + 1, none⟩)) := Pu.ok fun w => by kernel_rfl
theorem b0x {g o : Nat} : Pu pG (xV (Instr.fieldAt 49 (.pointer (some ⟨g, o, none⟩)) 0)) (.pointer (some ⟨g, o + 0, none⟩)) := Pu.ok fun w => by kernel_rfl
theorem b0y {g o : Nat} : Pu pG (xV (Instr.fieldAt 49 (.pointer (some ⟨g, o, none⟩)) 3)) (.pointer (some ⟨g, o + 3, none⟩)) := Pu.ok fun w => by kernel_rfl
theorem a8K (a : Option Addr) (n c : Nat) : Pu pG (xBuiltin .len #[47] 3 [false] [.slice a n c]) (.int .i64 (n : Int)) := a0x Tryz.underlying47 a n c
theorem b0z {g o : Nat} : Pu pG (xV (Instr.fieldAt 49 (.pointer (some ⟨g, o, none⟩)) 2)) (.pointer (some ⟨g, o + 2, none⟩)) := Pu.ok fun w => by kernel_rfl
theorem a9Y {a : Option Addr} {g o : Nat} (ha : a = some ⟨g, o, none⟩) (len cap : Nat) (k : IntKind) (i : Int) (h0 : 0 ≤ i) (h1 : i < len) : Pu pG (xV (Instr.indexAt 24 (.slice a len cap) (.int k i))) (.pointer (some ⟨g, o + i.toNat * 6, none⟩)) := a1e Tryz.underlying24 Tryz.sizeOf56 ha len cap k i h0 h1
theorem a2g {g o : Nat} : Pu pG (xV (Instr.fieldAt 56 (.pointer (some ⟨g, o, none⟩)) 2)) (.pointer (some ⟨g, o + 2, none⟩)) := Pu.ok fun w => by kernel_rfl
theorem b6q {g o : Nat} : Pu pG (xV (Instr.fieldAt 66 (.pointer (some ⟨g, o, none⟩)) 2)) (.pointer (some ⟨g, o + 2, none⟩)) := Pu.ok fun w => by kernel_rfl
theorem b6r {g o : Nat} : Pu pG (xV (Instr.fieldAt 66 (.pointer (some ⟨g, o, none⟩)) 0)) (.pointer (some ⟨g, o + 0, none⟩)) := Pu.ok fun w => by kernel_rfl
theorem a2L {g o : Nat} : Pu pG (xV (Instr.fieldAt 66 (.pointer (some ⟨g, o, none⟩)) 1)) (.pointer (some ⟨g, o + 1, none⟩)) := Pu.ok fun w => by kernel_rfl
theorem b3r {a : Option Addr} {g o : Nat} (ha : a = some ⟨g, o, none⟩) (len cap : Nat) (k : IntKind) (i : Int) (h0 : 0 ≤ i) (h1 : i < len) : Pu pG (xV (Instr.indexAt 61 (.slice a len cap) (.int k i))) (.pointer (some ⟨g, o + i.toNat * 5, none⟩)) := a1e Tryz.underlying61 Tryz.sizeOf103 ha len cap k i h0 h1
theorem a0m {g o : Nat} : Pu pG (xV (Instr.fieldAt 103 (.pointer (some ⟨g, o, none⟩)) 0)) (.pointer (some ⟨g, o + 0, none⟩)) := Pu.ok fun w => by kernel_rfl
theorem Q6 {g o : Nat} : Pu pG (xV (Instr.fieldAt 103 (.pointer (some ⟨g, o, none⟩)) 1)) (.pointer (some ⟨g, o + 1, none⟩)) := Pu.ok fun w => by kernel_rfl
theorem a8L {a0 a1 a2 a3 a4 : Value} : Pu pG (xV (Instr.field 103 (.agg #[a0, a1, a2, a3, a4]) 3)) (.agg #[a3, a4]) := Pu.ok fun w => by kernel_rfl
theorem b4U (a0 : ByteArray) : Pu pG (xV (Instr.build 68 #[(0, (Value.string a0))])) (.agg #[(Value.string a0), (Value.int .i64 0)]) := Pu.ok fun w => by kernel_rfl
theorem a5J {g o : Nat} : Pu pG (xV (Instr.fieldAt 103 (.pointer (some ⟨g, o, none⟩)) 2)) (.pointer (some ⟨g, o + 2, none⟩)) := Pu.ok fun w => by kernel_rfl
theorem a7S {g o : Nat} : Pu pG (xV (Instr.fieldAt 68 (.pointer (some ⟨g, o, none⟩)) 1)) (.pointer (some ⟨g, o + 1, none⟩)) := Pu.ok fun w => by kernel_rfl
abbrev z6 (x : l0) : List Value := [(Value.string x.A7), (Value.int .i64 x.a3u)]
theorem a8t (x : l0) : (z6 x).length = 2 := rfl
theorem a8u (x : l0) : (z6 x).all (·.oneCell') = true := rfl
theorem c0u (T9 : ByteArray) (U0 : Int) (w : World) : (Instr.buildSlice 23 1 #[(0, (Value.agg #[(Value.string T9), (Value.int .i64 U0)]))]).run pG w = .ok (.slice (some ⟨w.heap.size, 0, none⟩) 1 1) (w.alloc (.cells [(Value.string T9), (Value.int .i64 U0)].toArray 68)) := by kernel_rfl
theorem c2v : Tryz.prog.info? 68 = some ((Tryz.prog.info? 68).getD default) := by kernel_rfl
theorem c2w {E : Pan} {w0 w : World} {ps : Nat → Prop} {H0 H : Hp} {Fs : List Frag} {K : Value → World → Prop} {s : Sl} {xs : List l0} {F : Frag} {t2 : Sl} {ys : List l0} {ks : List Bool} {ty : TypeId} (I : Inv w0 ps H0 H (F :: Fs) w) (hr : RowL 68 2 z6 s xs F) (hs : SrcO w z6 t2 ys) (hb : (xs.length + ys.length) * 25 ≤ 140737488355328) (h : ∀ (s' : Sl) (F' : Frag) (w' : World), RowL 68 2 z6 s' (xs ++ ys) F' → Inv w0 ps H0 H (F' :: Fs) w' → (∀ k, k < w.heap.size → (∀ p ∈ F, p.1 ≠ k) → w'.heap[k]? = w.heap[k]?) → K (.slice s'.a s'.n s'.c) w') : opK pG E (xBuiltin .append #[23, 23] ty ks [.slice s.a s.n s.c, .slice t2.a t2.n t2.c]) w K :=
  a9f (bytes := 24) Tryz.underlying23 c2v (z := (Value.agg #[(Value.string ⟨#[]⟩), (Value.int .i64 0)])) (by kernel_rfl) (by kernel_rfl) (by kernel_rfl) (by kernel_rfl) I hr hs hb h
theorem a4Y {a0 a1 a2 a3 a4 : Value} : Pu pG (xV (Instr.field 103 (.agg #[a0, a1, a2, a3, a4]) 0)) a0 := Pu.ok fun w => by kernel_rfl
theorem a9M (a0 : Int) : Pu pG (xV (Instr.build 49 #[(0, (Value.int .i64 a0))])) (.agg #[(Value.int .i64 a0), (Value.int .i64 0), (Value.slice none 0 0), (Value.slice none 0 0)]) := Pu.ok fun w => by kernel_rfl
abbrev g9 (x : f8) : List Value := [(Value.int .i64 x.f7), (Value.int .i64 x.fOp), (Value.slice x.l8.a x.l8.n x.l8.c), (Value.slice x.E2.a x.E2.n x.E2.c)]
theorem R6 (x : f8) : (g9 x).length = 4 := rfl
theorem R7 (x : f8) : (g9 x).all (·.oneCell') = true := rfl
theorem a7B (T9 : Int) (U0 : Int) (a0_2a : Option Addr) (a0_2n a0_2c : Nat) (a0_3a : Option Addr) (a0_3n a0_3c : Nat) (w : World) : (Instr.buildSlice 47 1 #[(0, (Value.agg #[(Value.int .i64 T9), (Value.int .i64 U0), (Value.slice a0_2a a0_2n a0_2c), (Value.slice a0_3a a0_3n a0_3c)]))]).run pG w = .ok (.slice (some ⟨w.heap.size, 0, none⟩) 1 1) (w.alloc (.cells [(Value.int .i64 T9), (Value.int .i64 U0), (Value.slice a0_2a a0_2n a0_2c), (Value.slice a0_3a a0_3n a0_3c)].toArray 49)) := by kernel_rfl
theorem a4t (a0 : Int) (a3a : Option Addr) (a3n a3c : Nat) : Pu pG (xV (Instr.build 49 #[(0, (Value.int .i64 a0)), (3, (Value.slice a3a a3n a3c))])) (.agg #[(Value.int .i64 a0), (Value.int .i64 0), (Value.slice none 0 0), (Value.slice a3a a3n a3c)]) := Pu.ok fun w => by kernel_rfl
abbrev c8 (x : b7) : List Value := [(Value.int .i64 x.f7), (Value.int .i64 x.N6), (Value.string x.A7), (Value.slice x.E4.a x.E4.n x.E4.c)]
theorem M6 (x : b7) : (c8 x).length = 4 := rfl
theorem M7 (x : b7) : (c8 x).all (·.oneCell') = true := rfl
theorem a9h (T9 : Int) (U0 : Int) (a6M : ByteArray) (a0_3a : Option Addr) (a0_3n a0_3c : Nat) (w : World) : (Instr.buildSlice 38 1 #[(0, (Value.agg #[(Value.int .i64 T9), (Value.int .i64 U0), (Value.string a6M), (Value.slice a0_3a a0_3n a0_3c)]))]).run pG w = .ok (.slice (some ⟨w.heap.size, 0, none⟩) 1 1) (w.alloc (.cells [(Value.int .i64 T9), (Value.int .i64 U0), (Value.string a6M), (Value.slice a0_3a a0_3n a0_3c)].toArray 40)) := by kernel_rfl
theorem a4u (a0 : Int) (a3a : Option Addr) (a3n a3c : Nat) : Pu pG (xV (Instr.build 40 #[(0, (Value.int .i64 a0)), (3, (Value.slice a3a a3n a3c))])) (.agg #[(Value.int .i64 a0), (Value.int .i64 0), (Value.string ⟨#[]⟩), (Value.slice a3a a3n a3c)]) := Pu.ok fun w => by kernel_rfl
theorem b4V (a0 : Int) : Pu pG (xV (Instr.build 40 #[(0, (Value.int .i64 a0))])) (.agg #[(Value.int .i64 a0), (Value.int .i64 0), (Value.string ⟨#[]⟩), (Value.slice none 0 0)]) := Pu.ok fun w => by kernel_rfl
theorem b2U (a0 : Int) (a1 : Int) : Pu pG (xV (Instr.build 40 #[(0, (Value.int .i64 a0)), (1, (Value.int .i64 a1))])) (.agg #[(Value.int .i64 a0), (Value.int .i64 a1), (Value.string ⟨#[]⟩), (Value.slice none 0 0)]) := Pu.ok fun w => by kernel_rfl
theorem b0A (a0 : Int) (a2 : ByteArray) (a3a : Option Addr) (a3n a3c : Nat) : Pu pG (xV (Instr.build 40 #[(0, (Value.int .i64 a0)), (2, (Value.string a2)), (3, (Value.slice a3a a3n a3c))])) (.agg #[(Value.int .i64 a0), (Value.int .i64 0), (Value.string a2), (Value.slice a3a a3n a3c)]) := Pu.ok fun w => by kernel_rfl
theorem b2V (a0 : Int) (a2 : ByteArray) : Pu pG (xV (Instr.build 40 #[(0, (Value.int .i64 a0)), (2, (Value.string a2))])) (.agg #[(Value.int .i64 a0), (Value.int .i64 0), (Value.string a2), (Value.slice none 0 0)]) := Pu.ok fun w => by kernel_rfl
theorem a9i (T9 : Int) (U0 : Int) (a6M : ByteArray) (a0_3a : Option Addr) (a0_3n a0_3c : Nat) (b3s : Int) (b3t : Int) (c2x : ByteArray) (a1_3a : Option Addr) (a1_3n a1_3c : Nat) (w : World) : (Instr.buildSlice 38 2 #[(0, (Value.agg #[(Value.int .i64 T9), (Value.int .i64 U0), (Value.string a6M), (Value.slice a0_3a a0_3n a0_3c)])), (1, (Value.agg #[(Value.int .i64 b3s), (Value.int .i64 b3t), (Value.string c2x), (Value.slice a1_3a a1_3n a1_3c)]))]).run pG w = .ok (.slice (some ⟨w.heap.size, 0, none⟩) 2 2) (w.alloc (.cells [(Value.int .i64 T9), (Value.int .i64 U0), (Value.string a6M), (Value.slice a0_3a a0_3n a0_3c), (Value.int .i64 b3s), (Value.int .i64 b3t), (Value.string c2x), (Value.slice a1_3a a1_3n a1_3c)].toArray 40)) := by kernel_rfl
theorem a7t (a0 a1 a2 a3 a4 a5 : ByteArray) : Pu pG (xV (Instr.build 203 #[(0, .string a0), (1, .string a1), (2, .string a2), (3, .string a3), (4, .string a4), (5, .string a5)])) (.agg #[.string a0, .string a1, .string a2, .string a3, .string a4, .string a5]) := Pu.ok fun w => by kernel_rfl
theorem b0B (a0 : Int) (a1 : Int) (a2a : Option Addr) (a2n a2c : Nat) : Pu pG (xV (Instr.build 49 #[(0, (Value.int .i64 a0)), (1, (Value.int .i64 a1)), (2, (Value.slice a2a a2n a2c))])) (.agg #[(Value.int .i64 a0), (Value.int .i64 a1), (Value.slice a2a a2n a2c), (Value.slice none 0 0)]) := Pu.ok fun w => by kernel_rfl
theorem b1l (T9 : Int) (U0 : Int) (a0_2a : Option Addr) (a0_2n a0_2c : Nat) (a0_3a : Option Addr) (a0_3n a0_3c : Nat) (b3s : Int) (b3t : Int) (a1_2a : Option Addr) (a1_2n a1_2c : Nat) (a1_3a : Option Addr) (a1_3n a1_3c : Nat) (w : World) : (Instr.buildSlice 47 2 #[(0, (Value.agg #[(Value.int .i64 T9), (Value.int .i64 U0), (Value.slice a0_2a a0_2n a0_2c), (Value.slice a0_3a a0_3n a0_3c)])), (1, (Value.agg #[(Value.int .i64 b3s), (Value.int .i64 b3t), (Value.slice a1_2a a1_2n a1_2c), (Value.slice a1_3a a1_3n a1_3c)]))]).run pG w = .ok (.slice (some ⟨w.heap.size, 0, none⟩) 2 2) (w.alloc (.cells [(Value.int .i64 T9), (Value.int .i64 U0), (Value.slice a0_2a a0_2n a0_2c), (Value.slice a0_3a a0_3n a0_3c), (Value.int .i64 b3s), (Value.int .i64 b3t), (Value.slice a1_2a a1_2n a1_2c), (Value.slice a1_3a a1_3n a1_3c)].toArray 49)) := by kernel_rfl
abbrev s7 (x : g5) : List Value := [(Value.int .i64 x.f7), (Value.string x.A7), (Value.slice x.l8.a x.l8.n x.l8.c), (Value.slice x.z7.a x.z7.n x.z7.c), (Value.slice x.M3.a x.M3.n x.M3.c), (Value.slice x.L6.a x.L6.n x.L6.c)]
theorem a4v (x : g5) : (s7 x).length = 6 := rfl
theorem a4w (x : g5) : (s7 x).all (·.oneCell') = true := rfl
theorem b5p (T9 : Int) (U0 : ByteArray) (a0_2a : Option Addr) (a0_2n a0_2c : Nat) (a0_3a : Option Addr) (a0_3n a0_3c : Nat) (a0_4a : Option Addr) (a0_4n a0_4c : Nat) (a0_5a : Option Addr) (a0_5n a0_5c : Nat) (w : World) : (Instr.buildSlice 24 1 #[(0, (Value.agg #[(Value.int .i64 T9), (Value.string U0), (Value.slice a0_2a a0_2n a0_2c), (Value.slice a0_3a a0_3n a0_3c), (Value.slice a0_4a a0_4n a0_4c), (Value.slice a0_5a a0_5n a0_5c)]))]).run pG w = .ok (.slice (some ⟨w.heap.size, 0, none⟩) 1 1) (w.alloc (.cells [(Value.int .i64 T9), (Value.string U0), (Value.slice a0_2a a0_2n a0_2c), (Value.slice a0_3a a0_3n a0_3c), (Value.slice a0_4a a0_4n a0_4c), (Value.slice a0_5a a0_5n a0_5c)].toArray 56)) := by kernel_rfl
theorem c2y : Tryz.prog.info? 56 = some ((Tryz.prog.info? 56).getD default) := by kernel_rfl
theorem b7p {E : Pan} {w0 w : World} {ps : Nat → Prop} {H0 H : Hp} {Fs : List Frag} {K : Value → World → Prop} {s : Sl} {xs : List g5} {F : Frag} {t2 : Sl} {ys : List g5} {ks : List Bool} {ty : TypeId} (I : Inv w0 ps H0 H (F :: Fs) w) (hr : RowL 56 6 s7 s xs F) (hs : SrcO w s7 t2 ys) (hb : (xs.length + ys.length) * 121 ≤ 140737488355328) (h : ∀ (s' : Sl) (F' : Frag) (w' : World), RowL 56 6 s7 s' (xs ++ ys) F' → Inv w0 ps H0 H (F' :: Fs) w' → (∀ k, k < w.heap.size → (∀ p ∈ F, p.1 ≠ k) → w'.heap[k]? = w.heap[k]?) → K (.slice s'.a s'.n s'.c) w') : opK pG E (xBuiltin .append #[24, 24] ty ks [.slice s.a s.n s.c, .slice t2.a t2.n t2.c]) w K :=
  a9f (bytes := 120) Tryz.underlying24 c2y (z := (Value.agg #[(Value.int .i64 0), (Value.string ⟨#[]⟩), (Value.slice none 0 0), (Value.slice none 0 0), (Value.slice none 0 0), (Value.slice none 0 0)])) (by kernel_rfl) (by kernel_rfl) (by kernel_rfl) (by kernel_rfl) I hr hs hb h
theorem a6t {g o : Nat} : Pu pG (xV (Instr.fieldAt 56 (.pointer (some ⟨g, o, none⟩)) 4)) (.pointer (some ⟨g, o + 4, none⟩)) := Pu.ok fun w => by kernel_rfl
theorem a6u {g o : Nat} : Pu pG (xV (Instr.fieldAt 56 (.pointer (some ⟨g, o, none⟩)) 5)) (.pointer (some ⟨g, o + 5, none⟩)) := Pu.ok fun w => by kernel_rfl
theorem a0o {g o : Nat} : Pu pG (xV (Instr.fieldAt 56 (.pointer (some ⟨g, o, none⟩)) 0)) (.pointer (some ⟨g, o + 0, none⟩)) := Pu.ok fun w => by kernel_rfl
theorem c2z : Tryz.prog.info? 40 = some ((Tryz.prog.info? 40).getD default) := by kernel_rfl
theorem b7q {E : Pan} {w0 w : World} {ps : Nat → Prop} {H0 H : Hp} {Fs : List Frag} {K : Value → World → Prop} {s : Sl} {xs : List b7} {F : Frag} {t2 : Sl} {ys : List b7} {ks : List Bool} {ty : TypeId} (I : Inv w0 ps H0 H (F :: Fs) w) (hr : RowL 40 4 c8 s xs F) (hs : SrcO w c8 t2 ys) (hb : (xs.length + ys.length) * 57 ≤ 140737488355328) (h : ∀ (s' : Sl) (F' : Frag) (w' : World), RowL 40 4 c8 s' (xs ++ ys) F' → Inv w0 ps H0 H (F' :: Fs) w' → (∀ k, k < w.heap.size → (∀ p ∈ F, p.1 ≠ k) → w'.heap[k]? = w.heap[k]?) → K (.slice s'.a s'.n s'.c) w') : opK pG E (xBuiltin .append #[38, 38] ty ks [.slice s.a s.n s.c, .slice t2.a t2.n t2.c]) w K :=
  a9f (bytes := 56) Tryz.underlying38 c2z (z := (Value.agg #[(Value.int .i64 0), (Value.int .i64 0), (Value.string ⟨#[]⟩), (Value.slice none 0 0)])) (by kernel_rfl) (by kernel_rfl) (by kernel_rfl) (by kernel_rfl) I hr hs hb h
theorem b4W {g o : Nat} : Pu pG (xV (Instr.fieldAt 103 (.pointer (some ⟨g, o, none⟩)) 3)) (.pointer (some ⟨g, o + 3, none⟩)) := Pu.ok fun w => by kernel_rfl
theorem b8I {a : Option Addr} {g o : Nat} (ha : a = some ⟨g, o, none⟩) (len cap : Nat) (k : IntKind) (i : Int) (h0 : 0 ≤ i) (h1 : i < len) : Pu pG (xV (Instr.indexAt 23 (.slice a len cap) (.int k i))) (.pointer (some ⟨g, o + i.toNat * 2, none⟩)) := a1e Tryz.underlying23 Tryz.sizeOf68 ha len cap k i h0 h1
theorem a3T {g o : Nat} : Pu pG (xV (Instr.fieldAt 79 (.pointer (some ⟨g, o, none⟩)) 2)) (.pointer (some ⟨g, o + 2, none⟩)) := Pu.ok fun w => by kernel_rfl
theorem b0C {g o : Nat} : Pu pG (xV (Instr.fieldAt 40 (.pointer (some ⟨g, o, none⟩)) 2)) (.pointer (some ⟨g, o + 2, none⟩)) := Pu.ok fun w => by kernel_rfl
theorem a7T {g o : Nat} : Pu pG (xV (Instr.fieldAt 49 (.pointer (some ⟨g, o, none⟩)) 1)) (.pointer (some ⟨g, o + 1, none⟩)) := Pu.ok fun w => by kernel_rfl
theorem b8J {a : Option Addr} {g o : Nat} (ha : a = some ⟨g, o, none⟩) (len cap : Nat) (k : IntKind) (i : Int) (h0 : 0 ≤ i) (h1 : i < len) : Pu pG (xV (Instr.indexAt 47 (.slice a len cap) (.int k i))) (.pointer (some ⟨g, o + i.toNat * 4, none⟩)) := a1e Tryz.underlying47 Tryz.sizeOf49 ha len cap k i h0 h1
theorem b4X {g o : Nat} : Pu pG (xV (Instr.fieldAt 101 (.pointer (some ⟨g, o, none⟩)) 0)) (.pointer (some ⟨g, o + 0, none⟩)) := Pu.ok fun w => by kernel_rfl
theorem a2o {g o : Nat} : Pu pG (xV (Instr.fieldAt 101 (.pointer (some ⟨g, o, none⟩)) 1)) (.pointer (some ⟨g, o + 1, none⟩)) := Pu.ok fun w => by kernel_rfl
theorem a8v (T9 : Int) (U0 : Int) (a1 : Int) : Pu pG (xV (Instr.build 98 #[(0, (Value.agg #[(Value.int .i64 T9), (Value.int .i64 U0)])), (1, (Value.int .i64 a1))])) (.agg #[(Value.int .i64 T9), (Value.int .i64 U0), (Value.int .i64 a1)]) := Pu.ok fun w => by kernel_rfl
theorem a9N (b9X : Int) (b9Y : Int) (a_1 : Int) : Pu pG (xV (Instr.makeInterface 98 (.agg #[(Value.int .i64 b9X), (Value.int .i64 b9Y), (Value.int .i64 a_1)]))) (.iface 98 (.agg #[(Value.int .i64 b9X), (Value.int .i64 b9Y), (Value.int .i64 a_1)])) := Pu.ok fun w => by kernel_rfl
theorem b3u {a0 a1 a2 a3 a4 : Value} : Pu pG (xV (Instr.field 103 (.agg #[a0, a1, a2, a3, a4]) 1)) a1 := Pu.ok fun w => by kernel_rfl
theorem b3v {a0 a1 a2 a3 a4 : Value} : Pu pG (xV (Instr.field 103 (.agg #[a0, a1, a2, a3, a4]) 2)) a2 := Pu.ok fun w => by kernel_rfl
theorem a4Z {g o : Nat} : Pu pG (xV (Instr.fieldAt 56 (.pointer (some ⟨g, o, none⟩)) 1)) (.pointer (some ⟨g, o + 1, none⟩)) := Pu.ok fun w => by kernel_rfl
abbrev F7 (x : ByteArray) : List Value := [(Value.string x)]
theorem a5K (x : ByteArray) : (F7 x).length = 1 := rfl
theorem a5L (x : ByteArray) : (F7 x).all (·.oneCell') = true := rfl
theorem c0v (a0 : ByteArray) (a1 : ByteArray) (w : World) : (Instr.buildSlice 77 2 #[(0, (Value.string a0)), (1, (Value.string a1))]).run pG w = .ok (.slice (some ⟨w.heap.size, 0, none⟩) 2 2) (w.alloc (.cells [(Value.string a0), (Value.string a1)].toArray 9)) := by kernel_rfl
abbrev a7C (x : Int) : List Value := [(Value.int .i64 x)]
theorem b3w (x : Int) : (a7C x).length = 1 := rfl
theorem b3x (x : Int) : (a7C x).all (·.oneCell') = true := rfl
theorem b8K (a0 : Int) (a1 : Int) (w : World) : (Instr.buildSlice 137 2 #[(0, (Value.int .i64 a0)), (1, (Value.int .i64 a1))]).run pG w = .ok (.slice (some ⟨w.heap.size, 0, none⟩) 2 2) (w.alloc (.cells [(Value.int .i64 a0), (Value.int .i64 a1)].toArray 3)) := by kernel_rfl
theorem a3U {g o : Nat} : Pu pG (xV (Instr.fieldAt 56 (.pointer (some ⟨g, o, none⟩)) 3)) (.pointer (some ⟨g, o + 3, none⟩)) := Pu.ok fun w => by kernel_rfl
theorem b1m (a0 : Int) (c2A : Int) (c2B : Int) : Pu pG (xV (Instr.build 103 #[(0, (Value.int .i64 a0)), (3, (Value.agg #[(Value.int .i64 c2A), (Value.int .i64 c2B)]))])) (.agg #[(Value.int .i64 a0), (Value.string ⟨#[]⟩), (Value.int .i64 0), (Value.int .i64 c2A), (Value.int .i64 c2B)]) := Pu.ok fun w => by kernel_rfl
abbrev d8 (x : b5) : List Value := [(Value.int .i64 x.f7), (Value.string x.A8), (Value.int .i64 x.N6), (Value.int .i64 x.fAt.v7), (Value.int .i64 x.fAt.C8)]
theorem a3V (x : b5) : (d8 x).length = 5 := rfl
theorem a3W (x : b5) : (d8 x).all (·.oneCell') = true := rfl
theorem b5q (T9 : Int) (U0 : ByteArray) (a6M : Int) (b7r : Int) (b7s : Int) (w : World) : (Instr.buildSlice 61 1 #[(0, (Value.agg #[(Value.int .i64 T9), (Value.string U0), (Value.int .i64 a6M), (Value.int .i64 b7r), (Value.int .i64 b7s)]))]).run pG w = .ok (.slice (some ⟨w.heap.size, 0, none⟩) 1 1) (w.alloc (.cells [(Value.int .i64 T9), (Value.string U0), (Value.int .i64 a6M), (Value.int .i64 b7r), (Value.int .i64 b7s)].toArray 103)) := by kernel_rfl
theorem c0w : Tryz.prog.info? 103 = some ((Tryz.prog.info? 103).getD default) := by kernel_rfl
theorem b7t {E : Pan} {w0 w : World} {ps : Nat → Prop} {H0 H : Hp} {Fs : List Frag} {K : Value → World → Prop} {s : Sl} {xs : List b5} {F : Frag} {t2 : Sl} {ys : List b5} {ks : List Bool} {ty : TypeId} (I : Inv w0 ps H0 H (F :: Fs) w) (hr : RowL 103 5 d8 s xs F) (hs : SrcO w d8 t2 ys) (hb : (xs.length + ys.length) * 49 ≤ 140737488355328) (h : ∀ (s' : Sl) (F' : Frag) (w' : World), RowL 103 5 d8 s' (xs ++ ys) F' → Inv w0 ps H0 H (F' :: Fs) w' → (∀ k, k < w.heap.size → (∀ p ∈ F, p.1 ≠ k) → w'.heap[k]? = w.heap[k]?) → K (.slice s'.a s'.n s'.c) w') : opK pG E (xBuiltin .append #[61, 61] ty ks [.slice s.a s.n s.c, .slice t2.a t2.n t2.c]) w K :=
  a9f (bytes := 48) Tryz.underlying61 c0w (z := (Value.agg #[(Value.int .i64 0), (Value.string ⟨#[]⟩), (Value.int .i64 0), (Value.int .i64 0), (Value.int .i64 0)])) (by kernel_rfl) (by kernel_rfl) (by kernel_rfl) (by kernel_rfl) I hr hs hb h
theorem b6s {g o : Nat} : Pu pG (xV (Instr.fieldAt 68 (.pointer (some ⟨g, o, none⟩)) 0)) (.pointer (some ⟨g, o + 0, none⟩)) := Pu.ok fun w => by kernel_rfl
theorem b3y (a0a : Option Addr) (a0n a0c : Nat) (a1a : Option Addr) (a1n a1c : Nat) (w : World) : (Instr.buildSlice 172 2 #[(0, (Value.slice a0a a0n a0c)), (1, (Value.slice a1a a1n a1c))]).run pG w = .ok (.slice (some ⟨w.heap.size, 0, none⟩) 2 2) (w.alloc (.cells [(Value.slice a0a a0n a0c), (Value.slice a1a a1n a1c)].toArray 128)) := by kernel_rfl
theorem a8M (T9 : Int) (U0 : Int) (a6M : ByteArray) (a0_3a : Option Addr) (a0_3n a0_3c : Nat) : Pu pG (xV (Instr.build 141 #[(0, (Value.agg #[(Value.int .i64 T9), (Value.int .i64 U0), (Value.string a6M), (Value.slice a0_3a a0_3n a0_3c)]))])) (.agg #[(Value.int .i64 T9), (Value.int .i64 U0), (Value.string a6M), (Value.slice a0_3a a0_3n a0_3c)]) := Pu.ok fun w => by kernel_rfl
theorem a5p (x : F0) : Pu pG (xV (Instr.makeInterface 141 (.agg #[(Value.int .i64 x.s6.f7), (Value.int .i64 x.s6.N6), (Value.string x.s6.A7), (Value.slice x.s6.E4.a x.s6.E4.n x.s6.E4.c)]))) (E3 (d7.D1 x)) := Pu.ok fun w => rfl
abbrev p9 (x : d7) : List Value := [(E3 x)]
theorem M8 (x : d7) : (p9 x).length = 1 := rfl
theorem Q1 (x : d7) : (p9 x).all (·.oneCell') = true := b2T x
theorem a6N (a0 : d7) (w : World) : (Instr.buildSlice 128 1 #[(0, (E3 a0))]).run pG w = .ok (.slice (some ⟨w.heap.size, 0, none⟩) 1 1) (w.alloc (.cells [(E3 a0)].toArray 131)) := by cases a0 <;> kernel_rfl
theorem b3z (T9 : Int) (U0 : Int) (a0_2a : Option Addr) (a0_2n a0_2c : Nat) (a0_3a : Option Addr) (a0_3n a0_3c : Nat) : Pu pG (xV (Instr.build 146 #[(0, (Value.agg #[(Value.int .i64 T9), (Value.int .i64 U0), (Value.slice a0_2a a0_2n a0_2c), (Value.slice a0_3a a0_3n a0_3c)]))])) (.agg #[(Value.int .i64 T9), (Value.int .i64 U0), (Value.slice a0_2a a0_2n a0_2c), (Value.slice a0_3a a0_3n a0_3c)]) := Pu.ok fun w => by kernel_rfl
theorem b1n (x : R1) : Pu pG (xV (Instr.makeInterface 146 (.agg #[(Value.int .i64 x.o9.f7), (Value.int .i64 x.o9.fOp), (Value.slice x.o9.l8.a x.o9.l8.n x.o9.l8.c), (Value.slice x.o9.E2.a x.o9.E2.n x.o9.E2.c)]))) (E3 (d7.L2 x)) := Pu.ok fun w => rfl
theorem b1o (a0 : ByteArray) (c2C : Int) (c2D : Int) : Pu pG (xV (Instr.build 155 #[(0, (Value.string a0)), (2, (Value.agg #[(Value.int .i64 c2C), (Value.int .i64 c2D)]))])) (.agg #[(Value.string a0), (Value.int .i64 0), (Value.int .i64 c2C), (Value.int .i64 c2D), (Value.slice none 0 0)]) := Pu.ok fun w => by kernel_rfl
theorem U2 {g o : Nat} : Pu pG (xV (Instr.fieldAt 155 (.pointer (some ⟨g, o, none⟩)) 1)) (.pointer (some ⟨g, o + 1, none⟩)) := Pu.ok fun w => by kernel_rfl
theorem a4q {g o : Nat} : Pu pG (xV (Instr.fieldAt 155 (.pointer (some ⟨g, o, none⟩)) 0)) (.pointer (some ⟨g, o + 0, none⟩)) := Pu.ok fun w => by kernel_rfl
theorem a3i {g o : Nat} : Pu pG (xV (Instr.fieldAt 155 (.pointer (some ⟨g, o, none⟩)) 2)) (.pointer (some ⟨g, o + 2, none⟩)) := Pu.ok fun w => by kernel_rfl
theorem b0D {g o : Nat} : Pu pG (xV (Instr.fieldAt 28 (.pointer (some ⟨g, o, none⟩)) 1)) (.pointer (some ⟨g, o + 1, none⟩)) := Pu.ok fun w => by kernel_rfl
theorem b6t {g o : Nat} : Pu pG (xV (Instr.fieldAt 28 (.pointer (some ⟨g, o, none⟩)) 0)) (.pointer (some ⟨g, o + 0, none⟩)) := Pu.ok fun w => by kernel_rfl
theorem a5M {g o : Nat} : Pu pG (xV (Instr.fieldAt 155 (.pointer (some ⟨g, o, none⟩)) 3)) (.pointer (some ⟨g, o + 4, none⟩)) := Pu.ok fun w => by kernel_rfl
theorem c0x (s : ByteArray) (k : IntKind) (i : Int) (h0 : 0 ≤ i) (h1 : i < s.size) : Pu pG (xV (Instr.index 9 (.string s) (.int k i))) (.int .u8 ((s.get! i.toNat).toNat : Int)) := b3o _ s k i Tryz.underlying9 h0 h1
theorem a3X (a0 : Int) (a1 : ByteArray) : Pu pG (xV (Instr.build 103 #[(0, (Value.int .i64 a0)), (1, (Value.string a1))])) (.agg #[(Value.int .i64 a0), (Value.string a1), (Value.int .i64 0), (Value.int .i64 0), (Value.int .i64 0)]) := Pu.ok fun w => by kernel_rfl
theorem b0E  : Pu pG (xV (Instr.build 103 #[])) (.agg #[(Value.int .i64 0), (Value.string ⟨#[]⟩), (Value.int .i64 0), (Value.int .i64 0), (Value.int .i64 0)]) := Pu.ok fun w => by kernel_rfl
theorem b7u  : Pu pG (xV (Instr.build 79 #[])) (.agg #[(Value.int .i64 0), (Value.int .i64 0), (Value.int .i64 0), (Value.bool false), (Value.bool false), (Value.slice none 0 0)]) := Pu.ok fun w => by kernel_rfl
theorem a6v (a : Option Addr) (n c : Nat) : Pu pG (xBuiltin .len #[128] 3 [false] [.slice a n c]) (.int .i64 (n : Int)) := a0x Tryz.underlying128 a n c
theorem b7v {a : Option Addr} {g o : Nat} (ha : a = some ⟨g, o, none⟩) (len cap : Nat) (k : IntKind) (i : Int) (h0 : 0 ≤ i) (h1 : i < len) : Pu pG (xV (Instr.indexAt 128 (.slice a len cap) (.int k i))) (.pointer (some ⟨g, o + i.toNat * 1, none⟩)) := a1e Tryz.underlying128 Tryz.sizeOf131 ha len cap k i h0 h1
theorem a7U {g o : Nat} : Pu pG (xV (Instr.fieldAt 79 (.pointer (some ⟨g, o, none⟩)) 0)) (.pointer (some ⟨g, o + 0, none⟩)) := Pu.ok fun w => by kernel_rfl
theorem b0F {g o : Nat} : Pu pG (xV (Instr.fieldAt 79 (.pointer (some ⟨g, o, none⟩)) 1)) (.pointer (some ⟨g, o + 1, none⟩)) := Pu.ok fun w => by kernel_rfl
theorem a7V {g o : Nat} : Pu pG (xV (Instr.fieldAt 79 (.pointer (some ⟨g, o, none⟩)) 3)) (.pointer (some ⟨g, o + 3, none⟩)) := Pu.ok fun w => by kernel_rfl
theorem a7W {g o : Nat} : Pu pG (xV (Instr.fieldAt 79 (.pointer (some ⟨g, o, none⟩)) 4)) (.pointer (some ⟨g, o + 4, none⟩)) := Pu.ok fun w => by kernel_rfl
theorem a7X {g o : Nat} : Pu pG (xV (Instr.fieldAt 79 (.pointer (some ⟨g, o, none⟩)) 5)) (.pointer (some ⟨g, o + 5, none⟩)) := Pu.ok fun w => by kernel_rfl
theorem c0y (a0 : ByteArray) (w : World) : (Instr.buildSlice 77 1 #[(0, (Value.string a0))]).run pG w = .ok (.slice (some ⟨w.heap.size, 0, none⟩) 1 1) (w.alloc (.cells [(Value.string a0)].toArray 9)) := by kernel_rfl
theorem c5t : Tryz.prog.info? 9 = some ((Tryz.prog.info? 9).getD default) := by kernel_rfl
theorem c2E {E : Pan} {w0 w : World} {ps : Nat → Prop} {H0 H : Hp} {Fs : List Frag} {K : Value → World → Prop} {s : Sl} {xs : List ByteArray} {F : Frag} {t2 : Sl} {ys : List ByteArray} {ks : List Bool} {ty : TypeId} (I : Inv w0 ps H0 H (F :: Fs) w) (hr : RowL 9 1 F7 s xs F) (hs : SrcO w F7 t2 ys) (hb : (xs.length + ys.length) * 17 ≤ 140737488355328) (h : ∀ (s' : Sl) (F' : Frag) (w' : World), RowL 9 1 F7 s' (xs ++ ys) F' → Inv w0 ps H0 H (F' :: Fs) w' → (∀ k, k < w.heap.size → (∀ p ∈ F, p.1 ≠ k) → w'.heap[k]? = w.heap[k]?) → K (.slice s'.a s'.n s'.c) w') : opK pG E (xBuiltin .append #[77, 77] ty ks [.slice s.a s.n s.c, .slice t2.a t2.n t2.c]) w K :=
  a9f (bytes := 16) Tryz.underlying77 c5t (z := (Value.string ⟨#[]⟩)) (by kernel_rfl) (by kernel_rfl) (by kernel_rfl) (by kernel_rfl) I hr hs hb h
theorem b0G (a : Option Addr) (n c : Nat) : Pu pG (xBuiltin .len #[172] 3 [false] [.slice a n c]) (.int .i64 (n : Int)) := a0x Tryz.underlying172 a n c
theorem b2s {a : Option Addr} {g o : Nat} (ha : a = some ⟨g, o, none⟩) (len cap : Nat) (k : IntKind) (i : Int) (h0 : 0 ≤ i) (h1 : i < len) : Pu pG (xV (Instr.indexAt 172 (.slice a len cap) (.int k i))) (.pointer (some ⟨g, o + i.toNat * 1, none⟩)) := a1e Tryz.underlying172 Tryz.sizeOf128 ha len cap k i h0 h1
theorem b7w (s : ByteArray) : Pu pG (xV (Instr.makeInterface 9 (.string s))) (.iface 9 (.string s)) := Pu.ok fun w => by kernel_rfl
theorem b5r : Tryz.prog.info? 131 = some ((Tryz.prog.info? 131).getD default) := by kernel_rfl
theorem a7D {E : Pan} {w0 w : World} {ps : Nat → Prop} {H0 H : Hp} {Fs : List Frag} {K : Value → World → Prop} {s : Sl} {xs : List d7} {F : Frag} {t2 : Sl} {ys : List d7} {ks : List Bool} {ty : TypeId} (I : Inv w0 ps H0 H (F :: Fs) w) (hr : RowL 131 1 p9 s xs F) (hs : SrcO w p9 t2 ys) (hb : (xs.length + ys.length) * 17 ≤ 140737488355328) (h : ∀ (s' : Sl) (F' : Frag) (w' : World), RowL 131 1 p9 s' (xs ++ ys) F' → Inv w0 ps H0 H (F' :: Fs) w' → (∀ k, k < w.heap.size → (∀ p ∈ F, p.1 ≠ k) → w'.heap[k]? = w.heap[k]?) → K (.slice s'.a s'.n s'.c) w') : opK pG E (xBuiltin .append #[128, 128] ty ks [.slice s.a s.n s.c, .slice t2.a t2.n t2.c]) w K :=
  a9f (bytes := 16) Tryz.underlying128 b5r (z := Value.nilIface) (by kernel_rfl) (by kernel_rfl) (by kernel_rfl) (by kernel_rfl) I hr hs hb h
theorem b3A (T9 : ByteArray) (U0 : Int) : Pu pG (xV (Instr.build 175 #[(0, (Value.agg #[(Value.string T9), (Value.int .i64 U0)]))])) (.agg #[(Value.string T9), (Value.int .i64 U0)]) := Pu.ok fun w => by kernel_rfl
theorem b1p (x : U5) : Pu pG (xV (Instr.makeInterface 175 (.agg #[(Value.string x.V1.A7), (Value.int .i64 x.V1.a3u)]))) (E3 (d7.K2 x)) := Pu.ok fun w => rfl
theorem b3B (T9 : Int) (U0 : ByteArray) (a0_2a : Option Addr) (a0_2n a0_2c : Nat) (a0_3a : Option Addr) (a0_3n a0_3c : Nat) (a0_4a : Option Addr) (a0_4n a0_4c : Nat) (a0_5a : Option Addr) (a0_5n a0_5c : Nat) : Pu pG (xV (Instr.build 177 #[(0, (Value.agg #[(Value.int .i64 T9), (Value.string U0), (Value.slice a0_2a a0_2n a0_2c), (Value.slice a0_3a a0_3n a0_3c), (Value.slice a0_4a a0_4n a0_4c), (Value.slice a0_5a a0_5n a0_5c)]))])) (.agg #[(Value.int .i64 T9), (Value.string U0), (Value.slice a0_2a a0_2n a0_2c), (Value.slice a0_3a a0_3n a0_3c), (Value.slice a0_4a a0_4n a0_4c), (Value.slice a0_5a a0_5n a0_5c)]) := Pu.ok fun w => by kernel_rfl
theorem b1q (x : R3) : Pu pG (xV (Instr.makeInterface 177 (.agg #[(Value.int .i64 x.i7.f7), (Value.string x.i7.A7), (Value.slice x.i7.l8.a x.i7.l8.n x.i7.l8.c), (Value.slice x.i7.z7.a x.i7.z7.n x.i7.z7.c), (Value.slice x.i7.M3.a x.i7.M3.n x.i7.M3.c), (Value.slice x.i7.L6.a x.i7.L6.n x.i7.L6.c)]))) (E3 (d7.E9 x)) := Pu.ok fun w => rfl
theorem a9O {g o : Nat} : Pu pG (xV (Instr.fieldAt 139 (.pointer (some ⟨g, o, none⟩)) 2)) (.pointer (some ⟨g, o + 2, none⟩)) := Pu.ok fun w => by kernel_rfl
theorem c0z (a0 : ByteArray) (a1 : ByteArray) (a2 : ByteArray) (w : World) : (Instr.buildSlice 77 3 #[(0, (Value.string a0)), (1, (Value.string a1)), (2, (Value.string a2))]).run pG w = .ok (.slice (some ⟨w.heap.size, 0, none⟩) 3 3) (w.alloc (.cells [(Value.string a0), (Value.string a1), (Value.string a2)].toArray 9)) := by kernel_rfl
theorem b8L (a0 : Int) (a1 : Int) (a2 : Int) (w : World) : (Instr.buildSlice 137 3 #[(0, (Value.int .i64 a0)), (1, (Value.int .i64 a1)), (2, (Value.int .i64 a2))]).run pG w = .ok (.slice (some ⟨w.heap.size, 0, none⟩) 3 3) (w.alloc (.cells [(Value.int .i64 a0), (Value.int .i64 a1), (Value.int .i64 a2)].toArray 3)) := by kernel_rfl
theorem a6O (a0 a1 a2 a3 a4 a5 a6 : ByteArray) : Pu pG (xV (Instr.build 195 #[(0, .string a0), (1, .string a1), (2, .string a2), (3, .string a3), (4, .string a4), (5, .string a5), (6, .string a6)])) (.agg #[.string a0, .string a1, .string a2, .string a3, .string a4, .string a5, .string a6]) := Pu.ok fun w => by kernel_rfl
theorem b6u (a0 a1 a2 a3 a4 a5 a6 : ByteArray) (k : IntKind) (i : Int) (h0 : 0 ≤ i) (h1 : i < 7) : Pu pG (xV (Instr.index 195 (.agg #[.string a0, .string a1, .string a2, .string a3, .string a4, .string a5, .string a6]) (.int k i))) (.string (([a0, a1, a2, a3, a4, a5, a6] : List ByteArray).getD i.toNat ⟨#[]⟩)) := by
  obtain rfl | rfl | rfl | rfl | rfl | rfl | rfl := (by omega : i = 0 ∨ i = 1 ∨ i = 2 ∨ i = 3 ∨ i = 4 ∨ i = 5 ∨ i = 6)
  · exact Pu.ok fun w => by kernel_rfl
  · exact Pu.ok fun w => by kernel_rfl
  · exact Pu.ok fun w => by kernel_rfl
  · exact Pu.ok fun w => by kernel_rfl
  · exact Pu.ok fun w => by kernel_rfl
  · exact Pu.ok fun w => by kernel_rfl
  · exact Pu.ok fun w => by kernel_rfl
theorem b4Y {g o : Nat} : Pu pG (xV (Instr.fieldAt 139 (.pointer (some ⟨g, o, none⟩)) 0)) (.pointer (some ⟨g, o + 0, none⟩)) := Pu.ok fun w => by kernel_rfl
theorem b7x (a : Option Addr) (n c : Nat) : Pu pG (xBuiltin .len #[77] 3 [false] [.slice a n c]) (.int .i64 (n : Int)) := a0x Tryz.underlying77 a n c
theorem b3C {a : Option Addr} {g o : Nat} (ha : a = some ⟨g, o, none⟩) (len cap : Nat) (k : IntKind) (i : Int) (h0 : 0 ≤ i) (h1 : i < len) : Pu pG (xV (Instr.indexAt 77 (.slice a len cap) (.int k i))) (.pointer (some ⟨g, o + i.toNat * 1, none⟩)) := a1e Tryz.underlying77 Tryz.sizeOf9 ha len cap k i h0 h1
theorem b4Z {g o : Nat} : Pu pG (xV (Instr.fieldAt 139 (.pointer (some ⟨g, o, none⟩)) 1)) (.pointer (some ⟨g, o + 1, none⟩)) := Pu.ok fun w => by kernel_rfl
theorem b7y {a : Option Addr} {g o : Nat} (ha : a = some ⟨g, o, none⟩) (len cap : Nat) (k : IntKind) (i : Int) (h0 : 0 ≤ i) (h1 : i < len) : Pu pG (xV (Instr.indexAt 137 (.slice a len cap) (.int k i))) (.pointer (some ⟨g, o + i.toNat * 1, none⟩)) := a1e Tryz.underlying137 Tryz.sizeOf3 ha len cap k i h0 h1
theorem b6v (x : Operand) {v : Value} (h : okI v) : Pu pG (xBin .neq 200 x (.const Value.nilIface) v Value.nilIface) (.bool (!isNilI v)) := b8F _ _ (by kernel_rfl) h
theorem b6w (a0 a1 a2 a3 a4 a5 : ByteArray) (k : IntKind) (i : Int) (h0 : 0 ≤ i) (h1 : i < 6) : Pu pG (xV (Instr.index 203 (.agg #[.string a0, .string a1, .string a2, .string a3, .string a4, .string a5]) (.int k i))) (.string (([a0, a1, a2, a3, a4, a5] : List ByteArray).getD i.toNat ⟨#[]⟩)) := by
  obtain rfl | rfl | rfl | rfl | rfl | rfl := (by omega : i = 0 ∨ i = 1 ∨ i = 2 ∨ i = 3 ∨ i = 4 ∨ i = 5)
  · exact Pu.ok fun w => by kernel_rfl
  · exact Pu.ok fun w => by kernel_rfl
  · exact Pu.ok fun w => by kernel_rfl
  · exact Pu.ok fun w => by kernel_rfl
  · exact Pu.ok fun w => by kernel_rfl
  · exact Pu.ok fun w => by kernel_rfl
theorem b2W (x : d7) : Pu pG (xV (Instr.typeAssert (E3 x) 131 175 true)) (.tuple #[(Value.agg #[(Value.string ((((x.W5)).V1).A7)), (Value.int .i64 ((((x.W5)).V1).a3u))]), .bool (x.a3P)]) := by
  cases x <;> exact Pu.ok fun w => by kernel_rfl
theorem a7u {g o : Nat} : Pu pG (xV (Instr.fieldAt 175 (.pointer (some ⟨g, o, none⟩)) 0)) (.pointer (some ⟨g, o + 0, none⟩)) := Pu.ok fun w => by kernel_rfl
theorem b2X (x : d7) : Pu pG (xV (Instr.typeAssert (E3 x) 131 177 true)) (.tuple #[(Value.agg #[(Value.int .i64 ((((x.p8)).i7).f7)), (Value.string ((((x.p8)).i7).A7)), (Value.slice ((((x.p8)).i7).l8).a ((((x.p8)).i7).l8).n ((((x.p8)).i7).l8).c), (Value.slice ((((x.p8)).i7).z7).a ((((x.p8)).i7).z7).n ((((x.p8)).i7).z7).c), (Value.slice ((((x.p8)).i7).M3).a ((((x.p8)).i7).M3).n ((((x.p8)).i7).M3).c), (Value.slice ((((x.p8)).i7).L6).a ((((x.p8)).i7).L6).n ((((x.p8)).i7).L6).c)]), .bool (x.a3Q)]) := by
  cases x <;> exact Pu.ok fun w => by kernel_rfl
theorem M0 {g o : Nat} : Pu pG (xV (Instr.fieldAt 177 (.pointer (some ⟨g, o, none⟩)) 0)) (.pointer (some ⟨g, o + 0, none⟩)) := Pu.ok fun w => by kernel_rfl
theorem b2Y (x : d7) : Pu pG (xV (Instr.typeAssert (E3 x) 131 141 true)) (.tuple #[(Value.agg #[(Value.int .i64 ((((x.B9)).s6).f7)), (Value.int .i64 ((((x.B9)).s6).N6)), (Value.string ((((x.B9)).s6).A7)), (Value.slice ((((x.B9)).s6).E4).a ((((x.B9)).s6).E4).n ((((x.B9)).s6).E4).c)]), .bool (x.a3O)]) := by
  cases x <;> exact Pu.ok fun w => by kernel_rfl
theorem X8 {g o : Nat} : Pu pG (xV (Instr.fieldAt 141 (.pointer (some ⟨g, o, none⟩)) 0)) (.pointer (some ⟨g, o + 0, none⟩)) := Pu.ok fun w => by kernel_rfl
theorem a0p {g o : Nat} : Pu pG (xV (Instr.fieldAt 146 (.pointer (some ⟨g, o, none⟩)) 0)) (.pointer (some ⟨g, o + 0, none⟩)) := Pu.ok fun w => by kernel_rfl
theorem a3Y (a0 : Int) (a1 : Int) : Pu pG (xV (Instr.build 260 #[(0, (Value.int .i64 a0)), (1, (Value.int .i64 a1))])) (.agg #[(Value.int .i64 a0), (Value.int .i64 a1)]) := Pu.ok fun w => by kernel_rfl
theorem c0A (d : Nat) (a0 b0 : Int) (a1 b1 : Int) (w : World) : (Op.equalIn (d + 2) 260 (.agg #[(Value.int .i64 a0), (Value.int .i64 a1)]) (.agg #[(Value.int .i64 b0), (Value.int .i64 b1)])).run pG w = .ok (decide (a0 = b0 ∧ a1 = b1)) w := by
  have u3 := Tryz.underlying3
  have i3 := Tryz.isAgg3
  have s3 := Tryz.sizeOf3
  have hS : Tryz.prog.underlying 260 = some (.struct (Tryz.prog.fieldsOf 260)) := by kernel_rfl
  rw [run_equalIn_agg w (d + 1) 260 _ _ hS (by kernel_rfl)]
  simp only [Program.fieldsOf, Tryz.underlying260]
  go_simp
  try simp only [a9V]
  by_cases h0 : a0 = b0
  · by_cases h1 : a1 = b1
    · simp [h0, h1]
    · simp [h0, h1]
  · simp [h0]
theorem a7k (x y : Operand) (a0 b0 : Int) (a1 b1 : Int) : Pu pG (xBin .eql 260 x y (.agg #[(Value.int .i64 a0), (Value.int .i64 a1)]) (.agg #[(Value.int .i64 b0), (Value.int .i64 b1)])) (.bool (decide (a0 = b0 ∧ a1 = b1))) := by
  refine Pu.ok (s := do eqGuard .eql 260 x y (.agg #[(Value.int .i64 a0), (Value.int .i64 a1)]) (.agg #[(Value.int .i64 b0), (Value.int .i64 b1)]); binOp .eql 260 (.agg #[(Value.int .i64 a0), (Value.int .i64 a1)]) (.agg #[(Value.int .i64 b0), (Value.int .i64 b1)])) fun w => ?_
  rw [Sem.run_bind, run_eqGuard_agg w _ _ _ _ _ _ (by kernel_rfl), Result.andThen_ok, run_eql_struct, show (10000 : Nat) = 9998 + 2 from rfl, c0A]
  rfl
theorem b6x  : Pu pG (xV (Instr.build 260 #[])) (.agg #[(Value.int .i64 0), (Value.int .i64 0)]) := Pu.ok fun w => by kernel_rfl
theorem a1l (a0 : Int) (a1 : Int) : Pu pG (xV (Instr.build 264 #[(0, (Value.int .i64 a0)), (1, (Value.int .i64 a1))])) (.agg #[(Value.int .i64 a0), (Value.int .i64 a1)]) := Pu.ok fun w => by kernel_rfl
theorem c0B (d : Nat) (a0 b0 : Int) (a1 b1 : Int) (w : World) : (Op.equalIn (d + 2) 264 (.agg #[(Value.int .i64 a0), (Value.int .i64 a1)]) (.agg #[(Value.int .i64 b0), (Value.int .i64 b1)])).run pG w = .ok (decide (a0 = b0 ∧ a1 = b1)) w := by
  have u3 := Tryz.underlying3
  have i3 := Tryz.isAgg3
  have s3 := Tryz.sizeOf3
  have hS : Tryz.prog.underlying 264 = some (.struct (Tryz.prog.fieldsOf 264)) := by kernel_rfl
  rw [run_equalIn_agg w (d + 1) 264 _ _ hS (by kernel_rfl)]
  simp only [Program.fieldsOf, Tryz.underlying264]
  go_simp
  try simp only [a9V]
  by_cases h0 : a0 = b0
  · by_cases h1 : a1 = b1
    · simp [h0, h1]
    · simp [h0, h1]
  · simp [h0]
theorem a4F (x y : Operand) (a0 b0 : Int) (a1 b1 : Int) : Pu pG (xBin .eql 264 x y (.agg #[(Value.int .i64 a0), (Value.int .i64 a1)]) (.agg #[(Value.int .i64 b0), (Value.int .i64 b1)])) (.bool (decide (a0 = b0 ∧ a1 = b1))) := by
  refine Pu.ok (s := do eqGuard .eql 264 x y (.agg #[(Value.int .i64 a0), (Value.int .i64 a1)]) (.agg #[(Value.int .i64 b0), (Value.int .i64 b1)]); binOp .eql 264 (.agg #[(Value.int .i64 a0), (Value.int .i64 a1)]) (.agg #[(Value.int .i64 b0), (Value.int .i64 b1)])) fun w => ?_
  rw [Sem.run_bind, run_eqGuard_agg w _ _ _ _ _ _ (by kernel_rfl), Result.andThen_ok, run_eql_struct, show (10000 : Nat) = 9998 + 2 from rfl, c0B]
  rfl
theorem b6y  : Pu pG (xV (Instr.build 264 #[])) (.agg #[(Value.int .i64 0), (Value.int .i64 0)]) := Pu.ok fun w => by kernel_rfl
theorem b8M (a0a : Option Addr) (a0n a0c : Nat) (a1a : Option Addr) (a1n a1c : Nat) (a2a : Option Addr) (a2n a2c : Nat) (a3a : Option Addr) (a3n a3c : Nat) (w : World) : (Instr.buildSlice 172 4 #[(0, (Value.slice a0a a0n a0c)), (1, (Value.slice a1a a1n a1c)), (2, (Value.slice a2a a2n a2c)), (3, (Value.slice a3a a3n a3c))]).run pG w = .ok (.slice (some ⟨w.heap.size, 0, none⟩) 4 4) (w.alloc (.cells [(Value.slice a0a a0n a0c), (Value.slice a1a a1n a1c), (Value.slice a2a a2n a2c), (Value.slice a3a a3n a3c)].toArray 128)) := by kernel_rfl
abbrev p7 (x : l7) : List Value := [(Value.slice x.a3z.a x.a3z.n x.a3z.c), (Value.slice x.a2K.a x.a2K.n x.a2K.c)]
abbrev d9 (x : b9) : List Value := [(Value.int .i64 x.v7), (Value.int .i64 x.C8)]
abbrev j8 (x : b8) : List Value := [(Value.slice x.fl.a x.fl.n x.fl.c), (Value.int .i64 x.fat), (Value.int .i64 x.fbad), (Value.int .i64 x.fpos.v7), (Value.int .i64 x.fpos.C8)]
abbrev a7E (x : k7) : List Value := [(Value.int .i64 x.fnodes), (Value.int .i64 x.fdepth), (Value.int .i64 x.fe), (Value.bool x.fform), (Value.bool x.fnamed), (Value.slice x.fnames.a x.fnames.n x.fnames.c)]
abbrev b6 (x : a8) : List Value := [(Value.slice x.fl.a x.fl.n x.fl.c), (Value.int .i64 x.fn)]
abbrev S4 (x : a0z) : List Value := [(Value.slice x.fsigns.a x.fsigns.n x.fsigns.c), (Value.slice x.fkinds.a x.fkinds.n x.fkinds.c), x.fpart]
end Go.Proofs.YthklmeihgmcljaaGreatDoor
