/- Single operations at this program's types, and its structures; printed by lift.py. -/
import Derived.Test.YthldnpmfelniiaaDoorProg
import Derived.Test.YthldnpmfelniiaaDoorzWS5
import Derived.KernelRfl
import Derived.Laws.StructEq
import Derived.Laws.Tables
import Derived.Laws.Cover2
namespace Go.Proofs.YthldnpmfelniiaaDoor
open Go.RowKit
set_option maxRecDepth 100000
set_option maxHeartbeats 2000000
structure i7 where
  s8 : Sl
  Z8 : Sl
structure m7 where
  c6 : Int
  Q6 : Int
  f5 : ByteArray
  u6 : Sl
structure m8 where
  c6 : Int
  fOp : Int
  g5 : Sl
  p5 : Sl
structure i4 where
  f5 : ByteArray
  A5 : Int
structure b9 where
  f5 : ByteArray
  b5e : Bool
structure J5 where
  m9 : m7
structure i5 where
  fnodes : Int
  fdepth : Int
  fe : Int
  fform : Bool
  fnamed : Bool
  fnames : Sl
structure b7 where
  fn : Int
  fdepth : Int
  fbad : Int
structure b6 where
  fok : Bool
  fnames : Bool
structure N7 where
  m3 : m8
structure l9 where
  c6 : Int
  f5 : ByteArray
  g5 : Sl
  m4 : Sl
  A9 : Sl
  y8 : Sl
structure h4A where
  f0 : Int
  f1 : Int
  f2 : Int
  f3 : Int
structure h8 where
  fl : Sl
structure d6 where
  fname : ByteArray
  fas : Int
structure R1 where
  Q0 : i4
structure N8 where
  d4 : l9
structure H9 where
  fexprs : Int
  fparts : Int
structure A0 where
  fexprs : Int
  fconds : Int
inductive c7 where
  | nil
  | F0 (x : J5)
  | L6 (x : N7)
  | K7 (x : R1)
  | G4 (x : N8)
def A6 : c7 → Value
  | .nil => .nilIface
  | .F0 x => .iface 96 (.agg #[(Value.int .i64 x.m9.c6), (Value.int .i64 x.m9.Q6), (Value.string x.m9.f5), (Value.slice x.m9.u6.a x.m9.u6.n x.m9.u6.c)])
  | .L6 x => .iface 106 (.agg #[(Value.int .i64 x.m3.c6), (Value.int .i64 x.m3.fOp), (Value.slice x.m3.g5.a x.m3.g5.n x.m3.g5.c), (Value.slice x.m3.p5.a x.m3.p5.n x.m3.p5.c)])
  | .K7 x => .iface 175 (.agg #[(Value.string x.Q0.f5), (Value.int .i64 x.Q0.A5)])
  | .G4 x => .iface 177 (.agg #[(Value.int .i64 x.d4.c6), (Value.string x.d4.f5), (Value.slice x.d4.g5.a x.d4.g5.n x.d4.g5.c), (Value.slice x.d4.m4.a x.d4.m4.n x.d4.m4.c), (Value.slice x.d4.A9.a x.d4.A9.n x.d4.A9.c), (Value.slice x.d4.y8.a x.d4.y8.n x.d4.y8.c)])
theorem c4V (x : c7) : [A6 x].all (·.oneCell') = true := by cases x <;> rfl
def c7.q9 : c7 → J5
  | .F0 x => x
  | _ => (J5.mk (m7.mk 0 0 ⟨#[]⟩ (Sl.mk none 0 0)))
def c7.a9J : c7 → Bool
  | .F0 _ => true
  | _ => false
def c7.Z9 : c7 → R1
  | .K7 x => x
  | _ => (R1.mk (i4.mk ⟨#[]⟩ 0))
def c7.a9K : c7 → Bool
  | .K7 _ => true
  | _ => false
def c7.i8 : c7 → N8
  | .G4 x => x
  | _ => (N8.mk (l9.mk 0 ⟨#[]⟩ (Sl.mk none 0 0) (Sl.mk none 0 0) (Sl.mk none 0 0) (Sl.mk none 0 0)))
def c7.a9L : c7 → Bool
  | .G4 _ => true
  | _ => false
theorem d9u (x y : Operand) (a b : Bool) : Pu Tryd.prog (xBin .neq 4 x y (.bool a) (.bool b)) (.bool (a != b)) := e9x _ _ _ a b Tryd.underlying4
theorem b3E (a : Option Addr) (n c : Nat) : Pu Tryd.prog (xBuiltin .len #[47] 3 [false] [.slice a n c]) (.int .i64 (n : Int)) := a1D Tryd.underlying47 a n c
theorem F7 {g o : Nat} : Pu Tryd.prog (xV (Instr.fieldAt 25 (.pointer (some ⟨g, o, none⟩)) 0)) (.pointer (some ⟨g, o + 0, none⟩)) := Pu.ok fun w => by kernel_rfl
theorem Z6 (a : Option Addr) (n c : Nat) : Pu Tryd.prog (xBuiltin .len #[22] 3 [false] [.slice a n c]) (.int .i64 (n : Int)) := a1D Tryd.underlying22 a n c
theorem N0 {a : Option Addr} {g o : Nat} (ha : a = some ⟨g, o, none⟩) (len cap : Nat) (k : IntKind) (i : Int) (h0 : 0 ≤ i) (h1 : i < len) : Pu Tryd.prog (xV (Instr.indexAt 22 (.slice a len cap) (.int k i))) (.pointer (some ⟨g, o + i.toNat * 2, none⟩)) := a3F Tryd.underlying22 Tryd.sizeOf67 ha len cap k i h0 h1
theorem W4 {g o : Nat} : Pu Tryd.prog (xV (Instr.fieldAt 67 (.pointer (some ⟨g, o, none⟩)) 0)) (.pointer (some ⟨g, o + 0, none⟩)) := Pu.ok fun w => by kernel_rfl
theorem a9M (s : ByteArray) : Pu Tryd.prog (xBuiltin .len #[9] 3 [false] [.string s]) (.int .i64 (s.size : Int)) := d1J _ _ s Tryd.underlying9
theorem d6E (a : Option Addr) (n c : Nat) : Pu Tryd.prog (xBuiltin .len #[68] 3 [false] [.slice a n c]) (.int .i64 (n : Int)) := a1D Tryd.underlying68 a n c
theorem b5f {a : Option Addr} {g o : Nat} (ha : a = some ⟨g, o, none⟩) (len cap : Nat) (k : IntKind) (i : Int) (h0 : 0 ≤ i) (h1 : i < len) : Pu Tryd.prog (xV (Instr.indexAt 68 (.slice a len cap) (.int k i))) (.pointer (some ⟨g, o + i.toNat * 2, none⟩)) := a3F Tryd.underlying68 Tryd.sizeOf71 ha len cap k i h0 h1
theorem b5g {g o : Nat} : Pu Tryd.prog (xV (Instr.fieldAt 71 (.pointer (some ⟨g, o, none⟩)) 0)) (.pointer (some ⟨g, o + 0, none⟩)) := Pu.ok fun w => by kernel_rfl
theorem a5H {g o : Nat} : Pu Tryd.prog (xV (Instr.fieldAt 25 (.pointer (some ⟨g, o, none⟩)) 1)) (.pointer (some ⟨g, o + 1, none⟩)) := Pu.ok fun w => by kernel_rfl
abbrev g9 (x : i4) : List Value := [(Value.string x.f5), (Value.int .i64 x.A5)]
theorem a4L (x : i4) : (g9 x).length = 2 := rfl
theorem a6j (x : i4) : (g9 x).all (·.oneCell') = true := rfl
theorem e4S (a4c : ByteArray) (a4d : Int) (w : World) : (Instr.buildSlice 22 1 #[(0, (Value.agg #[(Value.string a4c), (Value.int .i64 a4d)]))]).run Tryd.prog w = .ok (.slice (some ⟨w.heap.size, 0, none⟩) 1 1) (w.alloc (.cells [(Value.string a4c), (Value.int .i64 a4d)].toArray 67)) := by kernel_rfl
theorem e9A : Tryd.prog.info? 67 = some ((Tryd.prog.info? 67).getD default) := by kernel_rfl
theorem d6F {E : Pan} {w0 w : World} {ps : Nat → Prop} {H0 H : Hp} {Fs : List Frag} {K : Value → World → Prop} {s : Sl} {xs : List i4} {F : Frag} {t2 : Sl} {ys : List i4} {ks : List Bool} {ty : TypeId} (I : Inv w0 ps H0 H (F :: Fs) w) (hr : RowL 67 2 g9 s xs F) (hs : SrcO w g9 t2 ys) (hb : (xs.length + ys.length) * 25 ≤ 140737488355328) (h : ∀ (s' : Sl) (F' : Frag) (w' : World), RowL 67 2 g9 s' (xs ++ ys) F' → Inv w0 ps H0 H (F' :: Fs) w' → (∀ k, k < w.heap.size → (∀ p ∈ F, p.1 ≠ k) → w'.heap[k]? = w.heap[k]?) → K (.slice s'.a s'.n s'.c) w') : opK Tryd.prog E (xBuiltin .append #[22, 22] ty ks [.slice s.a s.n s.c, .slice t2.a t2.n t2.c]) w K :=
  c1b (bytes := 24) Tryd.underlying22 e9A (z := (Value.agg #[(Value.string ⟨#[]⟩), (Value.int .i64 0)])) (by kernel_rfl) (by kernel_rfl) (by kernel_rfl) (by kernel_rfl) I hr hs hb h
theorem M5 (a : Option Addr) (n c : Nat) : Pu Tryd.prog (xBuiltin .len #[23] 3 [false] [.slice a n c]) (.int .i64 (n : Int)) := a1D Tryd.underlying23 a n c
theorem e9B (d : Nat) (a0 b0 : ByteArray) (a1 b1 : Int) (w : World) : (Op.equalIn (d + 2) 67 (.agg #[(Value.string a0), (Value.int .i64 a1)]) (.agg #[(Value.string b0), (Value.int .i64 b1)])).run Tryd.prog w = .ok (decide (a0 = b0 ∧ a1 = b1)) w := by
  have u9 := Tryd.underlying9
  have i9 := Tryd.isAgg9
  have s9 := Tryd.sizeOf9
  have u3 := Tryd.underlying3
  have i3 := Tryd.isAgg3
  have s3 := Tryd.sizeOf3
  have hS : Tryd.prog.underlying 67 = some (.struct (Tryd.prog.fieldsOf 67)) := by kernel_rfl
  rw [run_equalIn_agg w (d + 1) 67 _ _ hS (by kernel_rfl)]
  simp only [Program.fieldsOf, Tryd.underlying67]
  go_simp
  try simp only [b9z]
  by_cases h0 : a0 = b0
  · by_cases h1 : a1 = b1
    · simp [h0, h1]
    · simp [h0, h1]
  · simp [h0]
theorem d9v (x y : Operand) (a0 b0 : ByteArray) (a1 b1 : Int) : Pu Tryd.prog (xBin .neq 67 x y (.agg #[(Value.string a0), (Value.int .i64 a1)]) (.agg #[(Value.string b0), (Value.int .i64 b1)])) (.bool (!decide (a0 = b0 ∧ a1 = b1))) := by
  refine Pu.ok (s := do eqGuard .neq 67 x y (.agg #[(Value.string a0), (Value.int .i64 a1)]) (.agg #[(Value.string b0), (Value.int .i64 b1)]); binOp .neq 67 (.agg #[(Value.string a0), (Value.int .i64 a1)]) (.agg #[(Value.string b0), (Value.int .i64 b1)])) fun w => ?_
  rw [Sem.run_bind, run_eqGuard_agg w _ _ _ _ _ _ (by kernel_rfl), Result.andThen_ok, run_neq_struct, show (10000 : Nat) = 9998 + 2 from rfl, e9B]
  rfl
theorem d0r (a4c : Int) (a4d : Int) (e9C : ByteArray) (a0_3a : Option Addr) (a0_3n a0_3c : Nat) : Pu Tryd.prog (xV (Instr.build 96 #[(0, (Value.agg #[(Value.int .i64 a4c), (Value.int .i64 a4d), (Value.string e9C), (Value.slice a0_3a a0_3n a0_3c)]))])) (.agg #[(Value.int .i64 a4c), (Value.int .i64 a4d), (Value.string e9C), (Value.slice a0_3a a0_3n a0_3c)]) := Pu.ok fun w => by kernel_rfl
theorem b6O (x : J5) : Pu Tryd.prog (xV (Instr.makeInterface 96 (.agg #[(Value.int .i64 x.m9.c6), (Value.int .i64 x.m9.Q6), (Value.string x.m9.f5), (Value.slice x.m9.u6.a x.m9.u6.n x.m9.u6.c)]))) (A6 (c7.F0 x)) := Pu.ok fun _w => rfl
abbrev q6 (x : c7) : List Value := [(A6 x)]
theorem Q1 (x : c7) : (q6 x).length = 1 := rfl
theorem V9 (x : c7) : (q6 x).all (·.oneCell') = true := c4V x
theorem b8A (a0 : c7) (w : World) : (Instr.buildSlice 97 1 #[(0, (A6 a0))]).run Tryd.prog w = .ok (.slice (some ⟨w.heap.size, 0, none⟩) 1 1) (w.alloc (.cells [(A6 a0)].toArray 141)) := by cases a0 <;> kernel_rfl
theorem a8E {g o : Nat} : Pu Tryd.prog (xV (Instr.fieldAt 92 (.pointer (some ⟨g, o, none⟩)) 2)) (.pointer (some ⟨g, o + 2, none⟩)) := Pu.ok fun w => by kernel_rfl
theorem d6G  : Pu Tryd.prog (xV (Instr.build 99 #[])) (.agg #[(Value.int .i64 0), (Value.int .i64 0), (Value.int .i64 0)]) := Pu.ok fun w => by kernel_rfl
theorem y6 {g o : Nat} : Pu Tryd.prog (xV (Instr.fieldAt 99 (.pointer (some ⟨g, o, none⟩)) 2)) (.pointer (some ⟨g, o + 2, none⟩)) := Pu.ok fun w => by kernel_rfl
theorem b5h {g o : Nat} : Pu Tryd.prog (xV (Instr.fieldAt 99 (.pointer (some ⟨g, o, none⟩)) 0)) (.pointer (some ⟨g, o + 0, none⟩)) := Pu.ok fun w => by kernel_rfl
theorem c1d {g o : Nat} : Pu Tryd.prog (xV (Instr.fieldAt 99 (.pointer (some ⟨g, o, none⟩)) 1)) (.pointer (some ⟨g, o + 1, none⟩)) := Pu.ok fun w => by kernel_rfl
theorem a0U {g o : Nat} : Pu Tryd.prog (xV (Instr.fieldAt 30 (.pointer (some ⟨g, o, none⟩)) 3)) (.pointer (some ⟨g, o + 3, none⟩)) := Pu.ok fun w => by kernel_rfl
theorem G2 (a : Option Addr) (n c : Nat) : Pu Tryd.prog (xBuiltin .len #[28] 3 [false] [.slice a n c]) (.int .i64 (n : Int)) := a1D Tryd.underlying28 a n c
theorem a2u {a : Option Addr} {g o : Nat} (ha : a = some ⟨g, o, none⟩) (len cap : Nat) (k : IntKind) (i : Int) (h0 : 0 ≤ i) (h1 : i < len) : Pu Tryd.prog (xV (Instr.indexAt 28 (.slice a len cap) (.int k i))) (.pointer (some ⟨g, o + i.toNat * 4, none⟩)) := a3F Tryd.underlying28 Tryd.sizeOf30 ha len cap k i h0 h1
theorem c2R (a0 : Bool) (a1 : Bool) : Pu Tryd.prog (xV (Instr.build 102 #[(0, (Value.bool a0)), (1, (Value.bool a1))])) (.agg #[(Value.bool a0), (Value.bool a1)]) := Pu.ok fun w => by kernel_rfl
theorem J6 {g o : Nat} : Pu Tryd.prog (xV (Instr.fieldAt 30 (.pointer (some ⟨g, o, none⟩)) 0)) (.pointer (some ⟨g, o + 0, none⟩)) := Pu.ok fun w => by kernel_rfl
theorem a3G {g o : Nat} : Pu Tryd.prog (xV (Instr.fieldAt 30 (.pointer (some ⟨g, o, none⟩)) 2)) (.pointer (some ⟨g, o + 2, none⟩)) := Pu.ok fun w => by kernel_rfl
theorem q7 {g o : Nat} : Pu Tryd.prog (xV (Instr.fieldAt 102 (.pointer (some ⟨g, o, none⟩)) 0)) (.pointer (some ⟨g, o + 0, none⟩)) := Pu.ok fun w => by kernel_rfl
theorem b3V {g o : Nat} : Pu Tryd.prog (xV (Instr.fieldAt 102 (.pointer (some ⟨g, o, none⟩)) 1)) (.pointer (some ⟨g, o + 1, none⟩)) := Pu.ok fun w => by kernel_rfl
theorem a1E {g o : Nat} : Pu Tryd.prog (xV (Instr.fieldAt 30 (.pointer (some ⟨g, o, none⟩)) 1)) (.pointer (some ⟨g, o + 1, none⟩)) := Pu.ok fun w => by kernel_rfl
theorem c5O (a4c : Int) (a4d : Int) (a0_2a : Option Addr) (a0_2n a0_2c : Nat) (a0_3a : Option Addr) (a0_3n a0_3c : Nat) : Pu Tryd.prog (xV (Instr.build 106 #[(0, (Value.agg #[(Value.int .i64 a4c), (Value.int .i64 a4d), (Value.slice a0_2a a0_2n a0_2c), (Value.slice a0_3a a0_3n a0_3c)]))])) (.agg #[(Value.int .i64 a4c), (Value.int .i64 a4d), (Value.slice a0_2a a0_2n a0_2c), (Value.slice a0_3a a0_3n a0_3c)]) := Pu.ok fun w => by kernel_rfl
theorem c2S (x : N7) : Pu Tryd.prog (xV (Instr.makeInterface 106 (.agg #[(Value.int .i64 x.m3.c6), (Value.int .i64 x.m3.fOp), (Value.slice x.m3.g5.a x.m3.g5.n x.m3.g5.c), (Value.slice x.m3.p5.a x.m3.p5.n x.m3.p5.c)]))) (A6 (c7.L6 x)) := Pu.ok fun _w => rfl
theorem a0V {g o : Nat} : Pu Tryd.prog (xV (Instr.fieldAt 33 (.pointer (some ⟨g, o, none⟩)) 2)) (.pointer (some ⟨g, o + 2, none⟩)) := Pu.ok fun w => by kernel_rfl
theorem a0W {g o : Nat} : Pu Tryd.prog (xV (Instr.fieldAt 33 (.pointer (some ⟨g, o, none⟩)) 3)) (.pointer (some ⟨g, o + 3, none⟩)) := Pu.ok fun w => by kernel_rfl
theorem Q7 (a : Option Addr) (n c : Nat) : Pu Tryd.prog (xBuiltin .len #[31] 3 [false] [.slice a n c]) (.int .i64 (n : Int)) := a1D Tryd.underlying31 a n c
theorem a5I {a : Option Addr} {g o : Nat} (ha : a = some ⟨g, o, none⟩) (len cap : Nat) (k : IntKind) (i : Int) (h0 : 0 ≤ i) (h1 : i < len) : Pu Tryd.prog (xV (Instr.indexAt 31 (.slice a len cap) (.int k i))) (.pointer (some ⟨g, o + i.toNat * 4, none⟩)) := a3F Tryd.underlying31 Tryd.sizeOf33 ha len cap k i h0 h1
theorem b1i {g o : Nat} : Pu Tryd.prog (xV (Instr.fieldAt 33 (.pointer (some ⟨g, o, none⟩)) 0)) (.pointer (some ⟨g, o + 0, none⟩)) := Pu.ok fun w => by kernel_rfl
theorem a2M {g o : Nat} : Pu Tryd.prog (xV (Instr.fieldAt 33 (.pointer (some ⟨g, o, none⟩)) 1)) (.pointer (some ⟨g, o + 1, none⟩)) := Pu.ok fun w => by kernel_rfl
theorem b9r (a0 : ByteArray) : Pu Tryd.prog (xV (Instr.build 67 #[(0, (Value.string a0))])) (.agg #[(Value.string a0), (Value.int .i64 0)]) := Pu.ok fun w => by kernel_rfl
theorem d0s (a0a : Option Addr) (a0n a0c : Nat) : Pu Tryd.prog (xV (Instr.build 25 #[(0, (Value.slice a0a a0n a0c))])) (.agg #[(Value.slice a0a a0n a0c), (Value.slice none 0 0)]) := Pu.ok fun w => by kernel_rfl
theorem N9 {g o : Nat} : Pu Tryd.prog (xV (Instr.fieldAt 67 (.pointer (some ⟨g, o, none⟩)) 1)) (.pointer (some ⟨g, o + 1, none⟩)) := Pu.ok fun w => by kernel_rfl
theorem a5J {a : Option Addr} {g o : Nat} (ha : a = some ⟨g, o, none⟩) (len cap : Nat) (k : IntKind) (i : Int) (h0 : 0 ≤ i) (h1 : i < len) : Pu Tryd.prog (xV (Instr.indexAt 23 (.slice a len cap) (.int k i))) (.pointer (some ⟨g, o + i.toNat * 6, none⟩)) := a3F Tryd.underlying23 Tryd.sizeOf88 ha len cap k i h0 h1
theorem C1 {g o : Nat} : Pu Tryd.prog (xV (Instr.fieldAt 88 (.pointer (some ⟨g, o, none⟩)) 0)) (.pointer (some ⟨g, o + 0, none⟩)) := Pu.ok fun w => by kernel_rfl
theorem a4P {g o : Nat} : Pu Tryd.prog (xV (Instr.fieldAt 88 (.pointer (some ⟨g, o, none⟩)) 1)) (.pointer (some ⟨g, o + 1, none⟩)) := Pu.ok fun w => by kernel_rfl
theorem a0X {g o : Nat} : Pu Tryd.prog (xV (Instr.fieldAt 88 (.pointer (some ⟨g, o, none⟩)) 2)) (.pointer (some ⟨g, o + 2, none⟩)) := Pu.ok fun w => by kernel_rfl
theorem a0Y {g o : Nat} : Pu Tryd.prog (xV (Instr.fieldAt 88 (.pointer (some ⟨g, o, none⟩)) 3)) (.pointer (some ⟨g, o + 3, none⟩)) := Pu.ok fun w => by kernel_rfl
theorem a1F {g o : Nat} : Pu Tryd.prog (xV (Instr.fieldAt 88 (.pointer (some ⟨g, o, none⟩)) 4)) (.pointer (some ⟨g, o + 4, none⟩)) := Pu.ok fun w => by kernel_rfl
theorem W5 {g o : Nat} : Pu Tryd.prog (xV (Instr.fieldAt 88 (.pointer (some ⟨g, o, none⟩)) 5)) (.pointer (some ⟨g, o + 5, none⟩)) := Pu.ok fun w => by kernel_rfl
theorem c1e {g o : Nat} : Pu Tryd.prog (xV (Instr.fieldAt 92 (.pointer (some ⟨g, o, none⟩)) 1)) (.pointer (some ⟨g, o + 1, none⟩)) := Pu.ok fun w => by kernel_rfl
theorem b5i {g o : Nat} : Pu Tryd.prog (xV (Instr.fieldAt 92 (.pointer (some ⟨g, o, none⟩)) 0)) (.pointer (some ⟨g, o + 0, none⟩)) := Pu.ok fun w => by kernel_rfl
theorem b5j {g o : Nat} : Pu Tryd.prog (xV (Instr.fieldAt 92 (.pointer (some ⟨g, o, none⟩)) 5)) (.pointer (some ⟨g, o + 5, none⟩)) := Pu.ok fun w => by kernel_rfl
theorem b9C {a : Option Addr} {g o : Nat} (ha : a = some ⟨g, o, none⟩) (len cap : Nat) (k : IntKind) (i : Int) (h0 : 0 ≤ i) (h1 : i < len) : Pu Tryd.prog (xV (Instr.indexAt 47 (.slice a len cap) (.int k i))) (.pointer (some ⟨g, o + i.toNat * 1, none⟩)) := a3F Tryd.underlying47 Tryd.sizeOf9 ha len cap k i h0 h1
abbrev u7 (x : ByteArray) : List Value := [(Value.string x)]
theorem a6q (x : ByteArray) : (u7 x).length = 1 := rfl
theorem a6r (x : ByteArray) : (u7 x).all (·.oneCell') = true := rfl
abbrev m0 (x : b9) : List Value := [(Value.string x.f5), (Value.bool x.b5e)]
theorem a6s (x : b9) : (m0 x).length = 2 := rfl
theorem a6t (x : b9) : (m0 x).all (·.oneCell') = true := rfl
theorem e4T (a4c : ByteArray) (a4d : Int) (e9D : ByteArray) (e9E : Int) (w : World) : (Instr.buildSlice 22 2 #[(0, (Value.agg #[(Value.string a4c), (Value.int .i64 a4d)])), (1, (Value.agg #[(Value.string e9D), (Value.int .i64 e9E)]))]).run Tryd.prog w = .ok (.slice (some ⟨w.heap.size, 0, none⟩) 2 2) (w.alloc (.cells [(Value.string a4c), (Value.int .i64 a4d), (Value.string e9D), (Value.int .i64 e9E)].toArray 67)) := by kernel_rfl
theorem d1P  : Pu Tryd.prog (xV (Instr.build 126 #[])) (.agg #[(Value.slice none 0 0)]) := Pu.ok fun w => by kernel_rfl
abbrev r7 (x : d6) : List Value := [(Value.string x.fname), (Value.int .i64 x.fas)]
theorem a6k (x : d6) : (r7 x).length = 2 := rfl
theorem a6l (x : d6) : (r7 x).all (·.oneCell') = true := rfl
theorem a2N {g o : Nat} : Pu Tryd.prog (xV (Instr.fieldAt 126 (.pointer (some ⟨g, o, none⟩)) 0)) (.pointer (some ⟨g, o + 0, none⟩)) := Pu.ok fun w => by kernel_rfl
theorem a7g (a0 : ByteArray) (a1 : Int) : Pu Tryd.prog (xV (Instr.build 128 #[(0, (Value.string a0)), (1, (Value.int .i64 a1))])) (.agg #[(Value.string a0), (Value.int .i64 a1)]) := Pu.ok fun w => by kernel_rfl
theorem b5k (a4c : ByteArray) (a4d : Int) (w : World) : (Instr.buildSlice 124 1 #[(0, (Value.agg #[(Value.string a4c), (Value.int .i64 a4d)]))]).run Tryd.prog w = .ok (.slice (some ⟨w.heap.size, 0, none⟩) 1 1) (w.alloc (.cells [(Value.string a4c), (Value.int .i64 a4d)].toArray 128)) := by kernel_rfl
theorem e4U : Tryd.prog.info? 128 = some ((Tryd.prog.info? 128).getD default) := by kernel_rfl
theorem b8B {E : Pan} {w0 w : World} {ps : Nat → Prop} {H0 H : Hp} {Fs : List Frag} {K : Value → World → Prop} {s : Sl} {xs : List d6} {F : Frag} {t2 : Sl} {ys : List d6} {ks : List Bool} {ty : TypeId} (I : Inv w0 ps H0 H (F :: Fs) w) (hr : RowL 128 2 r7 s xs F) (hs : SrcO w r7 t2 ys) (hb : (xs.length + ys.length) * 25 ≤ 140737488355328) (h : ∀ (s' : Sl) (F' : Frag) (w' : World), RowL 128 2 r7 s' (xs ++ ys) F' → Inv w0 ps H0 H (F' :: Fs) w' → (∀ k, k < w.heap.size → (∀ p ∈ F, p.1 ≠ k) → w'.heap[k]? = w.heap[k]?) → K (.slice s'.a s'.n s'.c) w') : opK Tryd.prog E (xBuiltin .append #[124, 124] ty ks [.slice s.a s.n s.c, .slice t2.a t2.n t2.c]) w K :=
  c1b (bytes := 24) Tryd.underlying124 e4U (z := (Value.agg #[(Value.string ⟨#[]⟩), (Value.int .i64 0)])) (by kernel_rfl) (by kernel_rfl) (by kernel_rfl) (by kernel_rfl) I hr hs hb h
theorem d6H {a : Option Addr} {g o : Nat} (ha : a = some ⟨g, o, none⟩) (len cap : Nat) (k : IntKind) (i : Int) (h0 : 0 ≤ i) (h1 : i < len) : Pu Tryd.prog (xV (Instr.indexAt 124 (.slice a len cap) (.int k i))) (.pointer (some ⟨g, o + i.toNat * 2, none⟩)) := a3F Tryd.underlying124 Tryd.sizeOf128 ha len cap k i h0 h1
theorem b3W {g o : Nat} : Pu Tryd.prog (xV (Instr.fieldAt 128 (.pointer (some ⟨g, o, none⟩)) 0)) (.pointer (some ⟨g, o + 0, none⟩)) := Pu.ok fun w => by kernel_rfl
theorem d0t {g o : Nat} : Pu Tryd.prog (xV (Instr.fieldAt 128 (.pointer (some ⟨g, o, none⟩)) 1)) (.pointer (some ⟨g, o + 1, none⟩)) := Pu.ok fun w => by kernel_rfl
theorem d1Q {g o : Nat} : Pu Tryd.prog (xV (Instr.fieldAt 71 (.pointer (some ⟨g, o, none⟩)) 1)) (.pointer (some ⟨g, o + 1, none⟩)) := Pu.ok fun w => by kernel_rfl
theorem c2T (a0 : ByteArray) (w : World) : (Instr.buildSlice 47 1 #[(0, (Value.string a0))]).run Tryd.prog w = .ok (.slice (some ⟨w.heap.size, 0, none⟩) 1 1) (w.alloc (.cells [(Value.string a0)].toArray 9)) := by kernel_rfl
theorem g5V : Tryd.prog.info? 9 = some ((Tryd.prog.info? 9).getD default) := by kernel_rfl
theorem c5P {E : Pan} {w0 w : World} {ps : Nat → Prop} {H0 H : Hp} {Fs : List Frag} {K : Value → World → Prop} {s : Sl} {xs : List ByteArray} {F : Frag} {t2 : Sl} {ys : List ByteArray} {ks : List Bool} {ty : TypeId} (I : Inv w0 ps H0 H (F :: Fs) w) (hr : RowL 9 1 u7 s xs F) (hs : SrcO w u7 t2 ys) (hb : (xs.length + ys.length) * 17 ≤ 140737488355328) (h : ∀ (s' : Sl) (F' : Frag) (w' : World), RowL 9 1 u7 s' (xs ++ ys) F' → Inv w0 ps H0 H (F' :: Fs) w' → (∀ k, k < w.heap.size → (∀ p ∈ F, p.1 ≠ k) → w'.heap[k]? = w.heap[k]?) → K (.slice s'.a s'.n s'.c) w') : opK Tryd.prog E (xBuiltin .append #[47, 47] ty ks [.slice s.a s.n s.c, .slice t2.a t2.n t2.c]) w K :=
  c1b (bytes := 16) Tryd.underlying47 g5V (z := (Value.string ⟨#[]⟩)) (by kernel_rfl) (by kernel_rfl) (by kernel_rfl) (by kernel_rfl) I hr hs hb h
abbrev f6 (x : m7) : List Value := [(Value.int .i64 x.c6), (Value.int .i64 x.Q6), (Value.string x.f5), (Value.slice x.u6.a x.u6.n x.u6.c)]
abbrev d8 (x : l9) : List Value := [(Value.int .i64 x.c6), (Value.string x.f5), (Value.slice x.g5.a x.g5.n x.g5.c), (Value.slice x.m4.a x.m4.n x.m4.c), (Value.slice x.A9.a x.A9.n x.A9.c), (Value.slice x.y8.a x.y8.n x.y8.c)]
theorem d6I  : Pu Tryd.prog (xV (Instr.build 92 #[])) (.agg #[(Value.int .i64 0), (Value.int .i64 0), (Value.int .i64 0), (Value.bool false), (Value.bool false), (Value.slice none 0 0)]) := Pu.ok fun w => by kernel_rfl
theorem b3F (a : Option Addr) (n c : Nat) : Pu Tryd.prog (xBuiltin .len #[97] 3 [false] [.slice a n c]) (.int .i64 (n : Int)) := a1D Tryd.underlying97 a n c
theorem d9w {a : Option Addr} {g o : Nat} (ha : a = some ⟨g, o, none⟩) (len cap : Nat) (k : IntKind) (i : Int) (h0 : 0 ≤ i) (h1 : i < len) : Pu Tryd.prog (xV (Instr.indexAt 97 (.slice a len cap) (.int k i))) (.pointer (some ⟨g, o + i.toNat * 1, none⟩)) := a3F Tryd.underlying97 Tryd.sizeOf141 ha len cap k i h0 h1
theorem b5l {g o : Nat} : Pu Tryd.prog (xV (Instr.fieldAt 92 (.pointer (some ⟨g, o, none⟩)) 3)) (.pointer (some ⟨g, o + 3, none⟩)) := Pu.ok fun w => by kernel_rfl
theorem b5m {g o : Nat} : Pu Tryd.prog (xV (Instr.fieldAt 92 (.pointer (some ⟨g, o, none⟩)) 4)) (.pointer (some ⟨g, o + 4, none⟩)) := Pu.ok fun w => by kernel_rfl
theorem c5Q (a0a : Option Addr) (a0n a0c : Nat) (a1a : Option Addr) (a1n a1c : Nat) (w : World) : (Instr.buildSlice 172 2 #[(0, (Value.slice a0a a0n a0c)), (1, (Value.slice a1a a1n a1c))]).run Tryd.prog w = .ok (.slice (some ⟨w.heap.size, 0, none⟩) 2 2) (w.alloc (.cells [(Value.slice a0a a0n a0c), (Value.slice a1a a1n a1c)].toArray 97)) := by kernel_rfl
theorem a7h (s : ByteArray) (k : IntKind) (i : Int) (h0 : 0 ≤ i) (h1 : i < s.size) : Pu Tryd.prog (xV (Instr.index 9 (.string s) (.int k i))) (.int .u8 ((s.get! i.toNat).toNat : Int)) := c5G _ s k i Tryd.underlying9 h0 h1
theorem b6P (a0 : ByteArray) (a1 : Bool) : Pu Tryd.prog (xV (Instr.build 71 #[(0, (Value.string a0)), (1, (Value.bool a1))])) (.agg #[(Value.string a0), (Value.bool a1)]) := Pu.ok fun w => by kernel_rfl
theorem d0L (a4c : ByteArray) (a4d : Bool) (w : World) : (Instr.buildSlice 68 1 #[(0, (Value.agg #[(Value.string a4c), (Value.bool a4d)]))]).run Tryd.prog w = .ok (.slice (some ⟨w.heap.size, 0, none⟩) 1 1) (w.alloc (.cells [(Value.string a4c), (Value.bool a4d)].toArray 71)) := by kernel_rfl
theorem e9F : Tryd.prog.info? 71 = some ((Tryd.prog.info? 71).getD default) := by kernel_rfl
theorem d6J {E : Pan} {w0 w : World} {ps : Nat → Prop} {H0 H : Hp} {Fs : List Frag} {K : Value → World → Prop} {s : Sl} {xs : List b9} {F : Frag} {t2 : Sl} {ys : List b9} {ks : List Bool} {ty : TypeId} (I : Inv w0 ps H0 H (F :: Fs) w) (hr : RowL 71 2 m0 s xs F) (hs : SrcO w m0 t2 ys) (hb : (xs.length + ys.length) * 25 ≤ 140737488355328) (h : ∀ (s' : Sl) (F' : Frag) (w' : World), RowL 71 2 m0 s' (xs ++ ys) F' → Inv w0 ps H0 H (F' :: Fs) w' → (∀ k, k < w.heap.size → (∀ p ∈ F, p.1 ≠ k) → w'.heap[k]? = w.heap[k]?) → K (.slice s'.a s'.n s'.c) w') : opK Tryd.prog E (xBuiltin .append #[68, 68] ty ks [.slice s.a s.n s.c, .slice t2.a t2.n t2.c]) w K :=
  c1b (bytes := 24) Tryd.underlying68 e9F (z := (Value.agg #[(Value.string ⟨#[]⟩), (Value.bool false)])) (by kernel_rfl) (by kernel_rfl) (by kernel_rfl) (by kernel_rfl) I hr hs hb h
theorem d0u (x y : Operand) (s : Sl) : Pu Tryd.prog (xBin .eql 22 x y (vs s) (.slice none 0 0)) (.bool s.a.isNone) := d6C _ _ _ s Tryd.underlying22
theorem e4V  (w : World) : (Instr.buildSlice 22 0 #[]).run Tryd.prog w = .ok (.slice (some ⟨w.heap.size, 0, none⟩) 0 0) (w.alloc (.cells [].toArray 67)) := by kernel_rfl
abbrev g7 (x : m8) : List Value := [(Value.int .i64 x.c6), (Value.int .i64 x.fOp), (Value.slice x.g5.a x.g5.n x.g5.c), (Value.slice x.p5.a x.p5.n x.p5.c)]
theorem c1f (a : Option Addr) (n c : Nat) : Pu Tryd.prog (xBuiltin .len #[172] 3 [false] [.slice a n c]) (.int .i64 (n : Int)) := a1D Tryd.underlying172 a n c
theorem c4F {a : Option Addr} {g o : Nat} (ha : a = some ⟨g, o, none⟩) (len cap : Nat) (k : IntKind) (i : Int) (h0 : 0 ≤ i) (h1 : i < len) : Pu Tryd.prog (xV (Instr.indexAt 172 (.slice a len cap) (.int k i))) (.pointer (some ⟨g, o + i.toNat * 1, none⟩)) := a3F Tryd.underlying172 Tryd.sizeOf97 ha len cap k i h0 h1
theorem d6K (s : ByteArray) : Pu Tryd.prog (xV (Instr.makeInterface 9 (.string s))) (.iface 9 (.string s)) := Pu.ok fun w => by kernel_rfl
theorem d0M : Tryd.prog.info? 141 = some ((Tryd.prog.info? 141).getD default) := by kernel_rfl
theorem b7c {E : Pan} {w0 w : World} {ps : Nat → Prop} {H0 H : Hp} {Fs : List Frag} {K : Value → World → Prop} {s : Sl} {xs : List c7} {F : Frag} {t2 : Sl} {ys : List c7} {ks : List Bool} {ty : TypeId} (I : Inv w0 ps H0 H (F :: Fs) w) (hr : RowL 141 1 q6 s xs F) (hs : SrcO w q6 t2 ys) (hb : (xs.length + ys.length) * 17 ≤ 140737488355328) (h : ∀ (s' : Sl) (F' : Frag) (w' : World), RowL 141 1 q6 s' (xs ++ ys) F' → Inv w0 ps H0 H (F' :: Fs) w' → (∀ k, k < w.heap.size → (∀ p ∈ F, p.1 ≠ k) → w'.heap[k]? = w.heap[k]?) → K (.slice s'.a s'.n s'.c) w') : opK Tryd.prog E (xBuiltin .append #[97, 97] ty ks [.slice s.a s.n s.c, .slice t2.a t2.n t2.c]) w K :=
  c1b (bytes := 16) Tryd.underlying97 d0M (z := Value.nilIface) (by kernel_rfl) (by kernel_rfl) (by kernel_rfl) (by kernel_rfl) I hr hs hb h
theorem c5R (a4c : ByteArray) (a4d : Int) : Pu Tryd.prog (xV (Instr.build 175 #[(0, (Value.agg #[(Value.string a4c), (Value.int .i64 a4d)]))])) (.agg #[(Value.string a4c), (Value.int .i64 a4d)]) := Pu.ok fun w => by kernel_rfl
theorem c2U (x : R1) : Pu Tryd.prog (xV (Instr.makeInterface 175 (.agg #[(Value.string x.Q0.f5), (Value.int .i64 x.Q0.A5)]))) (A6 (c7.K7 x)) := Pu.ok fun _w => rfl
theorem c5S (a4c : Int) (a4d : ByteArray) (a0_2a : Option Addr) (a0_2n a0_2c : Nat) (a0_3a : Option Addr) (a0_3n a0_3c : Nat) (a0_4a : Option Addr) (a0_4n a0_4c : Nat) (a0_5a : Option Addr) (a0_5n a0_5c : Nat) : Pu Tryd.prog (xV (Instr.build 177 #[(0, (Value.agg #[(Value.int .i64 a4c), (Value.string a4d), (Value.slice a0_2a a0_2n a0_2c), (Value.slice a0_3a a0_3n a0_3c), (Value.slice a0_4a a0_4n a0_4c), (Value.slice a0_5a a0_5n a0_5c)]))])) (.agg #[(Value.int .i64 a4c), (Value.string a4d), (Value.slice a0_2a a0_2n a0_2c), (Value.slice a0_3a a0_3n a0_3c), (Value.slice a0_4a a0_4n a0_4c), (Value.slice a0_5a a0_5n a0_5c)]) := Pu.ok fun w => by kernel_rfl
theorem c2V (x : N8) : Pu Tryd.prog (xV (Instr.makeInterface 177 (.agg #[(Value.int .i64 x.d4.c6), (Value.string x.d4.f5), (Value.slice x.d4.g5.a x.d4.g5.n x.d4.g5.c), (Value.slice x.d4.m4.a x.d4.m4.n x.d4.m4.c), (Value.slice x.d4.A9.a x.d4.A9.n x.d4.A9.c), (Value.slice x.d4.y8.a x.d4.y8.n x.d4.y8.c)]))) (A6 (c7.G4 x)) := Pu.ok fun _w => rfl
theorem c4W (x : c7) : Pu Tryd.prog (xV (Instr.typeAssert (A6 x) 141 175 true)) (.tuple #[(Value.agg #[(Value.string ((((x.Z9)).Q0).f5)), (Value.int .i64 ((((x.Z9)).Q0).A5))]), .bool (x.a9K)]) := by
  cases x <;> exact Pu.ok fun w => by kernel_rfl
theorem a7G {g o : Nat} : Pu Tryd.prog (xV (Instr.fieldAt 175 (.pointer (some ⟨g, o, none⟩)) 0)) (.pointer (some ⟨g, o + 0, none⟩)) := Pu.ok fun w => by kernel_rfl
theorem c4X (x : c7) : Pu Tryd.prog (xV (Instr.typeAssert (A6 x) 141 177 true)) (.tuple #[(Value.agg #[(Value.int .i64 ((((x.i8)).d4).c6)), (Value.string ((((x.i8)).d4).f5)), (Value.slice ((((x.i8)).d4).g5).a ((((x.i8)).d4).g5).n ((((x.i8)).d4).g5).c), (Value.slice ((((x.i8)).d4).m4).a ((((x.i8)).d4).m4).n ((((x.i8)).d4).m4).c), (Value.slice ((((x.i8)).d4).A9).a ((((x.i8)).d4).A9).n ((((x.i8)).d4).A9).c), (Value.slice ((((x.i8)).d4).y8).a ((((x.i8)).d4).y8).n ((((x.i8)).d4).y8).c)]), .bool (x.a9L)]) := by
  cases x <;> exact Pu.ok fun w => by kernel_rfl
theorem G5 {g o : Nat} : Pu Tryd.prog (xV (Instr.fieldAt 177 (.pointer (some ⟨g, o, none⟩)) 0)) (.pointer (some ⟨g, o + 0, none⟩)) := Pu.ok fun w => by kernel_rfl
theorem c5T (x : c7) : Pu Tryd.prog (xV (Instr.typeAssert (A6 x) 141 96 true)) (.tuple #[(Value.agg #[(Value.int .i64 ((((x.q9)).m9).c6)), (Value.int .i64 ((((x.q9)).m9).Q6)), (Value.string ((((x.q9)).m9).f5)), (Value.slice ((((x.q9)).m9).u6).a ((((x.q9)).m9).u6).n ((((x.q9)).m9).u6).c)]), .bool (x.a9J)]) := by
  cases x <;> exact Pu.ok fun w => by kernel_rfl
theorem O0 {g o : Nat} : Pu Tryd.prog (xV (Instr.fieldAt 96 (.pointer (some ⟨g, o, none⟩)) 0)) (.pointer (some ⟨g, o + 0, none⟩)) := Pu.ok fun w => by kernel_rfl
theorem b7d (k : IntKind) (n : Int) : Pu Tryd.prog (xV (convert 5 3 (.int k n))) (.int .i64 (IntKind.wrap .i64 n)) := Pu.ok fun w => run_convert_int (P := Tryd.prog) (w := w) 5 3 k n (by rw [Tryd.underlying5]; rfl) Tryd.underlying3
theorem a0O {g o : Nat} : Pu Tryd.prog (xV (Instr.fieldAt 106 (.pointer (some ⟨g, o, none⟩)) 0)) (.pointer (some ⟨g, o + 0, none⟩)) := Pu.ok fun w => by kernel_rfl
theorem a3Z (a0 : Int) (a1 : Int) : Pu Tryd.prog (xV (Instr.build 209 #[(0, (Value.int .i64 a0)), (1, (Value.int .i64 a1))])) (.agg #[(Value.int .i64 a0), (Value.int .i64 a1)]) := Pu.ok fun w => by kernel_rfl
theorem e4W (d : Nat) (a0 b0 : Int) (a1 b1 : Int) (w : World) : (Op.equalIn (d + 2) 209 (.agg #[(Value.int .i64 a0), (Value.int .i64 a1)]) (.agg #[(Value.int .i64 b0), (Value.int .i64 b1)])).run Tryd.prog w = .ok (decide (a0 = b0 ∧ a1 = b1)) w := by
  have u3 := Tryd.underlying3
  have i3 := Tryd.isAgg3
  have s3 := Tryd.sizeOf3
  have hS : Tryd.prog.underlying 209 = some (.struct (Tryd.prog.fieldsOf 209)) := by kernel_rfl
  rw [run_equalIn_agg w (d + 1) 209 _ _ hS (by kernel_rfl)]
  simp only [Program.fieldsOf, Tryd.underlying209]
  go_simp
  try simp only [b9z]
  by_cases h0 : a0 = b0
  · by_cases h1 : a1 = b1
    · simp [h0, h1]
    · simp [h0, h1]
  · simp [h0]
theorem a8v (x y : Operand) (a0 b0 : Int) (a1 b1 : Int) : Pu Tryd.prog (xBin .eql 209 x y (.agg #[(Value.int .i64 a0), (Value.int .i64 a1)]) (.agg #[(Value.int .i64 b0), (Value.int .i64 b1)])) (.bool (decide (a0 = b0 ∧ a1 = b1))) := by
  refine Pu.ok (s := do eqGuard .eql 209 x y (.agg #[(Value.int .i64 a0), (Value.int .i64 a1)]) (.agg #[(Value.int .i64 b0), (Value.int .i64 b1)]); binOp .eql 209 (.agg #[(Value.int .i64 a0), (Value.int .i64 a1)]) (.agg #[(Value.int .i64 b0), (Value.int .i64 b1)])) fun w => ?_
  rw [Sem.run_bind, run_eqGuard_agg w _ _ _ _ _ _ (by kernel_rfl), Result.andThen_ok, run_eql_struct, show (10000 : Nat) = 9998 + 2 from rfl, e4W]
  rfl
theorem d1R  : Pu Tryd.prog (xV (Instr.build 209 #[])) (.agg #[(Value.int .i64 0), (Value.int .i64 0)]) := Pu.ok fun w => by kernel_rfl
theorem F8 (a0 : Int) (a1 : Int) : Pu Tryd.prog (xV (Instr.build 213 #[(0, (Value.int .i64 a0)), (1, (Value.int .i64 a1))])) (.agg #[(Value.int .i64 a0), (Value.int .i64 a1)]) := Pu.ok fun w => by kernel_rfl
theorem e4X (d : Nat) (a0 b0 : Int) (a1 b1 : Int) (w : World) : (Op.equalIn (d + 2) 213 (.agg #[(Value.int .i64 a0), (Value.int .i64 a1)]) (.agg #[(Value.int .i64 b0), (Value.int .i64 b1)])).run Tryd.prog w = .ok (decide (a0 = b0 ∧ a1 = b1)) w := by
  have u3 := Tryd.underlying3
  have i3 := Tryd.isAgg3
  have s3 := Tryd.sizeOf3
  have hS : Tryd.prog.underlying 213 = some (.struct (Tryd.prog.fieldsOf 213)) := by kernel_rfl
  rw [run_equalIn_agg w (d + 1) 213 _ _ hS (by kernel_rfl)]
  simp only [Program.fieldsOf, Tryd.underlying213]
  go_simp
  try simp only [b9z]
  by_cases h0 : a0 = b0
  · by_cases h1 : a1 = b1
    · simp [h0, h1]
    · simp [h0, h1]
  · simp [h0]
theorem P9 (x y : Operand) (a0 b0 : Int) (a1 b1 : Int) : Pu Tryd.prog (xBin .eql 213 x y (.agg #[(Value.int .i64 a0), (Value.int .i64 a1)]) (.agg #[(Value.int .i64 b0), (Value.int .i64 b1)])) (.bool (decide (a0 = b0 ∧ a1 = b1))) := by
  refine Pu.ok (s := do eqGuard .eql 213 x y (.agg #[(Value.int .i64 a0), (Value.int .i64 a1)]) (.agg #[(Value.int .i64 b0), (Value.int .i64 b1)]); binOp .eql 213 (.agg #[(Value.int .i64 a0), (Value.int .i64 a1)]) (.agg #[(Value.int .i64 b0), (Value.int .i64 b1)])) fun w => ?_
  rw [Sem.run_bind, run_eqGuard_agg w _ _ _ _ _ _ (by kernel_rfl), Result.andThen_ok, run_eql_struct, show (10000 : Nat) = 9998 + 2 from rfl, e4X]
  rfl
theorem b5n  : Pu Tryd.prog (xV (Instr.build 213 #[])) (.agg #[(Value.int .i64 0), (Value.int .i64 0)]) := Pu.ok fun w => by kernel_rfl
theorem d9x (a0a : Option Addr) (a0n a0c : Nat) (a1a : Option Addr) (a1n a1c : Nat) (a2a : Option Addr) (a2n a2c : Nat) (a3a : Option Addr) (a3n a3c : Nat) (w : World) : (Instr.buildSlice 172 4 #[(0, (Value.slice a0a a0n a0c)), (1, (Value.slice a1a a1n a1c)), (2, (Value.slice a2a a2n a2c)), (3, (Value.slice a3a a3n a3c))]).run Tryd.prog w = .ok (.slice (some ⟨w.heap.size, 0, none⟩) 4 4) (w.alloc (.cells [(Value.slice a0a a0n a0c), (Value.slice a1a a1n a1c), (Value.slice a2a a2n a2c), (Value.slice a3a a3n a3c)].toArray 97)) := by kernel_rfl
abbrev d5 (x : i7) : List Value := [(Value.slice x.s8.a x.s8.n x.s8.c), (Value.slice x.Z8.a x.Z8.n x.Z8.c)]
abbrev a7i (x : i5) : List Value := [(Value.int .i64 x.fnodes), (Value.int .i64 x.fdepth), (Value.int .i64 x.fe), (Value.bool x.fform), (Value.bool x.fnamed), (Value.slice x.fnames.a x.fnames.n x.fnames.c)]
abbrev d7 (x : b7) : List Value := [(Value.int .i64 x.fn), (Value.int .i64 x.fdepth), (Value.int .i64 x.fbad)]
abbrev f8 (x : b6) : List Value := [(Value.bool x.fok), (Value.bool x.fnames)]
end Go.Proofs.YthldnpmfelniiaaDoor
