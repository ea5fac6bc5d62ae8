/- Single operations at this program's types, and its structures; printed by lift.py. -/
import Derived.Test.YtnhkdkcgdcgmdaaDoorProg
import Derived.Test.YtnhkdkcgdcgmdaaDoorzOS5
import Derived.KernelRfl
import Derived.Laws.StructEq
import Derived.Laws.Tables
import Derived.Laws.Cover2
namespace Go.Proofs.YtnhkdkcgdcgmdaaDoor
open Go.RowKit
set_option maxRecDepth 100000
set_option maxHeartbeats 2000000
structure b5 where
  a8 : Int
  o2 : Int
  b7 : ByteArray
  m7 : Sl
structure b8 where
  a8 : Int
  fOp : Int
  g8 : Sl
  q8 : Sl
structure j6 where
  T9 : Sl
  a1y : Sl
structure g9 where
  fnodes : Int
  fdepth : Int
  fe : Int
  fform : Bool
  fnamed : Bool
  fnames : Sl
structure i4 where
  fl : Sl
structure f6 where
  fname : ByteArray
  fas : Int
structure b9 where
  a8 : Int
  b7 : ByteArray
  g8 : Sl
  o9 : Sl
  v6 : Sl
  t7 : Sl
structure J4 where
  q9 : b5
structure c0V where
  fn : Int
  fdepth : Int
  fbad : Int
structure c0W where
  fok : Bool
  fnames : Bool
structure N0 where
  p5 : b8
structure t1 where
  b7 : ByteArray
  Z2 : Int
structure T3 where
  T4 : t1
structure P8 where
  f7 : b9
structure a3R where
  f0 : Int
  f1 : Int
structure L3 where
  fexprs : Int
  fparts : Int
structure Q2 where
  fexprs : Int
  fconds : Int
inductive d7 where
  | nil
  | F7 (x : J4)
  | L8 (x : N0)
  | N4 (x : T3)
  | K7 (x : P8)
def C0 : d7 → Value
  | .nil => .nilIface
  | .F7 x => .iface 123 (.agg #[(Value.int .i64 x.q9.a8), (Value.int .i64 x.q9.o2), (Value.string x.q9.b7), (Value.slice x.q9.m7.a x.q9.m7.n x.q9.m7.c)])
  | .L8 x => .iface 138 (.agg #[(Value.int .i64 x.p5.a8), (Value.int .i64 x.p5.fOp), (Value.slice x.p5.g8.a x.p5.g8.n x.p5.g8.c), (Value.slice x.p5.q8.a x.p5.q8.n x.p5.q8.c)])
  | .N4 x => .iface 177 (.agg #[(Value.string x.T4.b7), (Value.int .i64 x.T4.Z2)])
  | .K7 x => .iface 179 (.agg #[(Value.int .i64 x.f7.a8), (Value.string x.f7.b7), (Value.slice x.f7.g8.a x.f7.g8.n x.f7.g8.c), (Value.slice x.f7.o9.a x.f7.o9.n x.f7.o9.c), (Value.slice x.f7.v6.a x.f7.v6.n x.f7.v6.c), (Value.slice x.f7.t7.a x.f7.t7.n x.f7.t7.c)])
theorem c6d (x : d7) : [C0 x].all (·.oneCell') = true := by cases x <;> rfl
def d7.y9 : d7 → J4
  | .F7 x => x
  | _ => (J4.mk (b5.mk 0 0 ⟨#[]⟩ (Sl.mk none 0 0)))
def d7.a7K : d7 → Bool
  | .F7 _ => true
  | _ => false
def d7.X5 : d7 → T3
  | .N4 x => x
  | _ => (T3.mk (t1.mk ⟨#[]⟩ 0))
def d7.a7L : d7 → Bool
  | .N4 _ => true
  | _ => false
def d7.m5 : d7 → P8
  | .K7 x => x
  | _ => (P8.mk (b9.mk 0 ⟨#[]⟩ (Sl.mk none 0 0) (Sl.mk none 0 0) (Sl.mk none 0 0) (Sl.mk none 0 0)))
def d7.a7M : d7 → Bool
  | .K7 _ => true
  | _ => false
theorem V7 {g o : Nat} : Pu Tryd.prog (xV (Instr.fieldAt 24 (.pointer (some ⟨g, o, none⟩)) 0)) (.pointer (some ⟨g, o + 0, none⟩)) := Pu.ok fun w => by kernel_rfl
theorem J5 {g o : Nat} : Pu Tryd.prog (xV (Instr.fieldAt 24 (.pointer (some ⟨g, o, none⟩)) 3)) (.pointer (some ⟨g, o + 3, none⟩)) := Pu.ok fun w => by kernel_rfl
theorem Z3 (a : Option Addr) (n c : Nat) : Pu Tryd.prog (xBuiltin .len #[22] 3 [false] [.slice a n c]) (.int .i64 (n : Int)) := a3V Tryd.underlying22 a n c
theorem a0P {g o : Nat} : Pu Tryd.prog (xV (Instr.fieldAt 27 (.pointer (some ⟨g, o, none⟩)) 0)) (.pointer (some ⟨g, o + 0, none⟩)) := Pu.ok fun w => by kernel_rfl
theorem a0h {g o : Nat} : Pu Tryd.prog (xV (Instr.fieldAt 27 (.pointer (some ⟨g, o, none⟩)) 3)) (.pointer (some ⟨g, o + 3, none⟩)) := Pu.ok fun w => by kernel_rfl
theorem a2H (a : Option Addr) (n c : Nat) : Pu Tryd.prog (xBuiltin .len #[25] 3 [false] [.slice a n c]) (.int .i64 (n : Int)) := a3V Tryd.underlying25 a n c
theorem a0Q {g o : Nat} : Pu Tryd.prog (xV (Instr.fieldAt 27 (.pointer (some ⟨g, o, none⟩)) 2)) (.pointer (some ⟨g, o + 2, none⟩)) := Pu.ok fun w => by kernel_rfl
abbrev b6 (x : b5) : List Value := [(Value.int .i64 x.a8), (Value.int .i64 x.o2), (Value.string x.b7), (Value.slice x.m7.a x.m7.n x.m7.c)]
theorem a1q (x : b5) : (b6 x).length = 4 := rfl
theorem a1r (x : b5) : (b6 x).all (·.oneCell') = true := rfl
theorem c4A (a2I : Int) (a2J : Int) (b8b : ByteArray) (a0_3a : Option Addr) (a0_3n a0_3c : Nat) (e8D : Int) (e8E : Int) (e8F : ByteArray) (a1_3a : Option Addr) (a1_3n a1_3c : Nat) (w : World) : (Instr.buildSlice 22 2 #[(0, (Value.agg #[(Value.int .i64 a2I), (Value.int .i64 a2J), (Value.string b8b), (Value.slice a0_3a a0_3n a0_3c)])), (1, (Value.agg #[(Value.int .i64 e8D), (Value.int .i64 e8E), (Value.string e8F), (Value.slice a1_3a a1_3n a1_3c)]))]).run Tryd.prog w = .ok (.slice (some ⟨w.heap.size, 0, none⟩) 2 2) (w.alloc (.cells [(Value.int .i64 a2I), (Value.int .i64 a2J), (Value.string b8b), (Value.slice a0_3a a0_3n a0_3c), (Value.int .i64 e8D), (Value.int .i64 e8E), (Value.string e8F), (Value.slice a1_3a a1_3n a1_3c)].toArray 24)) := by kernel_rfl
theorem b0R (a0 : Int) (a3a : Option Addr) (a3n a3c : Nat) : Pu Tryd.prog (xV (Instr.build 24 #[(0, (Value.int .i64 a0)), (3, (Value.slice a3a a3n a3c))])) (.agg #[(Value.int .i64 a0), (Value.int .i64 0), (Value.string ⟨#[]⟩), (Value.slice a3a a3n a3c)]) := Pu.ok fun w => by kernel_rfl
theorem c6e (a0 : Int) (a2 : ByteArray) : Pu Tryd.prog (xV (Instr.build 24 #[(0, (Value.int .i64 a0)), (2, (Value.string a2))])) (.agg #[(Value.int .i64 a0), (Value.int .i64 0), (Value.string a2), (Value.slice none 0 0)]) := Pu.ok fun w => by kernel_rfl
theorem c2G (a0 : Int) (a1 : Int) (a2a : Option Addr) (a2n a2c : Nat) : Pu Tryd.prog (xV (Instr.build 27 #[(0, (Value.int .i64 a0)), (1, (Value.int .i64 a1)), (2, (Value.slice a2a a2n a2c))])) (.agg #[(Value.int .i64 a0), (Value.int .i64 a1), (Value.slice a2a a2n a2c), (Value.slice none 0 0)]) := Pu.ok fun w => by kernel_rfl
theorem O0 {a : Option Addr} {g o : Nat} (ha : a = some ⟨g, o, none⟩) (len cap : Nat) (k : IntKind) (i : Int) (h0 : 0 ≤ i) (h1 : i < len) : Pu Tryd.prog (xV (Instr.indexAt 22 (.slice a len cap) (.int k i))) (.pointer (some ⟨g, o + i.toNat * 4, none⟩)) := a4L Tryd.underlying22 Tryd.sizeOf24 ha len cap k i h0 h1
theorem a6b {g o : Nat} : Pu Tryd.prog (xV (Instr.fieldAt 24 (.pointer (some ⟨g, o, none⟩)) 1)) (.pointer (some ⟨g, o + 1, none⟩)) := Pu.ok fun w => by kernel_rfl
theorem d6t  : Pu Tryd.prog (xV (Instr.build 24 #[])) (.agg #[(Value.int .i64 0), (Value.int .i64 0), (Value.string ⟨#[]⟩), (Value.slice none 0 0)]) := Pu.ok fun w => by kernel_rfl
theorem d6u  : Pu Tryd.prog (xV (Instr.build 27 #[])) (.agg #[(Value.int .i64 0), (Value.int .i64 0), (Value.slice none 0 0), (Value.slice none 0 0)]) := Pu.ok fun w => by kernel_rfl
theorem a7N {g o : Nat} : Pu Tryd.prog (xV (Instr.fieldAt 24 (.pointer (some ⟨g, o, none⟩)) 2)) (.pointer (some ⟨g, o + 2, none⟩)) := Pu.ok fun w => by kernel_rfl
theorem a7O {g o : Nat} : Pu Tryd.prog (xV (Instr.fieldAt 27 (.pointer (some ⟨g, o, none⟩)) 1)) (.pointer (some ⟨g, o + 1, none⟩)) := Pu.ok fun w => by kernel_rfl
theorem a3W {a : Option Addr} {g o : Nat} (ha : a = some ⟨g, o, none⟩) (len cap : Nat) (k : IntKind) (i : Int) (h0 : 0 ≤ i) (h1 : i < len) : Pu Tryd.prog (xV (Instr.indexAt 25 (.slice a len cap) (.int k i))) (.pointer (some ⟨g, o + i.toNat * 4, none⟩)) := a4L Tryd.underlying25 Tryd.sizeOf27 ha len cap k i h0 h1
theorem d9p (x y : Operand) (a b : Bool) : Pu Tryd.prog (xBin .eql 4 x y (.bool a) (.bool b)) (.bool (a == b)) := e8s _ _ _ a b Tryd.underlying4
theorem b6a (x y : Operand) (a b : Bool) : Pu Tryd.prog (xBin .neq 4 x y (.bool a) (.bool b)) (.bool (a != b)) := e8t _ _ _ a b Tryd.underlying4
theorem c5J  : Pu Tryd.prog (xV (Instr.build 44 #[])) (.agg #[(Value.slice none 0 0), (Value.slice none 0 0)]) := Pu.ok fun w => by kernel_rfl
theorem a6c {g o : Nat} : Pu Tryd.prog (xV (Instr.fieldAt 44 (.pointer (some ⟨g, o, none⟩)) 1)) (.pointer (some ⟨g, o + 1, none⟩)) := Pu.ok fun w => by kernel_rfl
theorem a0b {g o : Nat} : Pu Tryd.prog (xV (Instr.fieldAt 106 (.pointer (some ⟨g, o, none⟩)) 2)) (.pointer (some ⟨g, o + 2, none⟩)) := Pu.ok fun w => by kernel_rfl
theorem b4s {g o : Nat} : Pu Tryd.prog (xV (Instr.fieldAt 106 (.pointer (some ⟨g, o, none⟩)) 1)) (.pointer (some ⟨g, o + 1, none⟩)) := Pu.ok fun w => by kernel_rfl
theorem b0w {g o : Nat} : Pu Tryd.prog (xV (Instr.fieldAt 106 (.pointer (some ⟨g, o, none⟩)) 0)) (.pointer (some ⟨g, o + 0, none⟩)) := Pu.ok fun w => by kernel_rfl
theorem a9c {g o : Nat} : Pu Tryd.prog (xV (Instr.fieldAt 44 (.pointer (some ⟨g, o, none⟩)) 0)) (.pointer (some ⟨g, o + 0, none⟩)) := Pu.ok fun w => by kernel_rfl
theorem d2p  : Pu Tryd.prog (xV (Instr.build 114 #[])) (.agg #[(Value.slice none 0 0)]) := Pu.ok fun w => by kernel_rfl
abbrev y7 (x : f6) : List Value := [(Value.string x.fname), (Value.int .i64 x.fas)]
theorem a6K (x : f6) : (y7 x).length = 2 := rfl
theorem a6L (x : f6) : (y7 x).all (·.oneCell') = true := rfl
theorem a3O (a : Option Addr) (n c : Nat) : Pu Tryd.prog (xBuiltin .len #[42] 3 [false] [.slice a n c]) (.int .i64 (n : Int)) := a3V Tryd.underlying42 a n c
theorem a9K {a : Option Addr} {g o : Nat} (ha : a = some ⟨g, o, none⟩) (len cap : Nat) (k : IntKind) (i : Int) (h0 : 0 ≤ i) (h1 : i < len) : Pu Tryd.prog (xV (Instr.indexAt 42 (.slice a len cap) (.int k i))) (.pointer (some ⟨g, o + i.toNat * 6, none⟩)) := a4L Tryd.underlying42 Tryd.sizeOf63 ha len cap k i h0 h1
theorem a0R {g o : Nat} : Pu Tryd.prog (xV (Instr.fieldAt 63 (.pointer (some ⟨g, o, none⟩)) 0)) (.pointer (some ⟨g, o + 0, none⟩)) := Pu.ok fun w => by kernel_rfl
theorem a2m {g o : Nat} : Pu Tryd.prog (xV (Instr.fieldAt 114 (.pointer (some ⟨g, o, none⟩)) 0)) (.pointer (some ⟨g, o + 0, none⟩)) := Pu.ok fun w => by kernel_rfl
theorem a4M {g o : Nat} : Pu Tryd.prog (xV (Instr.fieldAt 63 (.pointer (some ⟨g, o, none⟩)) 1)) (.pointer (some ⟨g, o + 1, none⟩)) := Pu.ok fun w => by kernel_rfl
theorem a7P (a0 : ByteArray) (a1 : Int) : Pu Tryd.prog (xV (Instr.build 117 #[(0, (Value.string a0)), (1, (Value.int .i64 a1))])) (.agg #[(Value.string a0), (Value.int .i64 a1)]) := Pu.ok fun w => by kernel_rfl
theorem b6b (a2I : ByteArray) (a2J : Int) (w : World) : (Instr.buildSlice 112 1 #[(0, (Value.agg #[(Value.string a2I), (Value.int .i64 a2J)]))]).run Tryd.prog w = .ok (.slice (some ⟨w.heap.size, 0, none⟩) 1 1) (w.alloc (.cells [(Value.string a2I), (Value.int .i64 a2J)].toArray 117)) := by kernel_rfl
theorem e4n : Tryd.prog.info? 117 = some ((Tryd.prog.info? 117).getD default) := by kernel_rfl
theorem b9E {E : Pan} {w0 w : World} {ps : Nat → Prop} {H0 H : Hp} {Fs : List Frag} {K : Value → World → Prop} {s : Sl} {xs : List f6} {F : Frag} {t2 : Sl} {ys : List f6} {ks : List Bool} {ty : TypeId} (I : Inv w0 ps H0 H (F :: Fs) w) (hr : RowL 117 2 y7 s xs F) (hs : SrcO w y7 t2 ys) (hb : (xs.length + ys.length) * 25 ≤ 140737488355328) (h : ∀ (s' : Sl) (F' : Frag) (w' : World), RowL 117 2 y7 s' (xs ++ ys) F' → Inv w0 ps H0 H (F' :: Fs) w' → (∀ k, k < w.heap.size → (∀ p ∈ F, p.1 ≠ k) → w'.heap[k]? = w.heap[k]?) → K (.slice s'.a s'.n s'.c) w') : opK Tryd.prog E (xBuiltin .append #[112, 112] ty ks [.slice s.a s.n s.c, .slice t2.a t2.n t2.c]) w K :=
  b5X (bytes := 24) Tryd.underlying112 e4n (z := (Value.agg #[(Value.string ⟨#[]⟩), (Value.int .i64 0)])) (by kernel_rfl) (by kernel_rfl) (by kernel_rfl) (by kernel_rfl) I hr hs hb h
theorem a0S {g o : Nat} : Pu Tryd.prog (xV (Instr.fieldAt 63 (.pointer (some ⟨g, o, none⟩)) 3)) (.pointer (some ⟨g, o + 3, none⟩)) := Pu.ok fun w => by kernel_rfl
theorem a3w {g o : Nat} : Pu Tryd.prog (xV (Instr.fieldAt 63 (.pointer (some ⟨g, o, none⟩)) 2)) (.pointer (some ⟨g, o + 2, none⟩)) := Pu.ok fun w => by kernel_rfl
theorem a2o {g o : Nat} : Pu Tryd.prog (xV (Instr.fieldAt 63 (.pointer (some ⟨g, o, none⟩)) 4)) (.pointer (some ⟨g, o + 4, none⟩)) := Pu.ok fun w => by kernel_rfl
theorem a0T {g o : Nat} : Pu Tryd.prog (xV (Instr.fieldAt 63 (.pointer (some ⟨g, o, none⟩)) 5)) (.pointer (some ⟨g, o + 5, none⟩)) := Pu.ok fun w => by kernel_rfl
theorem d6v {a : Option Addr} {g o : Nat} (ha : a = some ⟨g, o, none⟩) (len cap : Nat) (k : IntKind) (i : Int) (h0 : 0 ≤ i) (h1 : i < len) : Pu Tryd.prog (xV (Instr.indexAt 112 (.slice a len cap) (.int k i))) (.pointer (some ⟨g, o + i.toNat * 2, none⟩)) := a4L Tryd.underlying112 Tryd.sizeOf117 ha len cap k i h0 h1
theorem b4t {g o : Nat} : Pu Tryd.prog (xV (Instr.fieldAt 117 (.pointer (some ⟨g, o, none⟩)) 0)) (.pointer (some ⟨g, o + 0, none⟩)) := Pu.ok fun w => by kernel_rfl
theorem d1c {g o : Nat} : Pu Tryd.prog (xV (Instr.fieldAt 117 (.pointer (some ⟨g, o, none⟩)) 1)) (.pointer (some ⟨g, o + 1, none⟩)) := Pu.ok fun w => by kernel_rfl
theorem b0S (a0 : Int) (a1 : Int) : Pu Tryd.prog (xV (Instr.build 24 #[(0, (Value.int .i64 a0)), (1, (Value.int .i64 a1))])) (.agg #[(Value.int .i64 a0), (Value.int .i64 a1), (Value.string ⟨#[]⟩), (Value.slice none 0 0)]) := Pu.ok fun w => by kernel_rfl
theorem b8c (a2I : Int) (a2J : Int) (b8b : ByteArray) (a0_3a : Option Addr) (a0_3n a0_3c : Nat) : Pu Tryd.prog (xV (Instr.build 123 #[(0, (Value.agg #[(Value.int .i64 a2I), (Value.int .i64 a2J), (Value.string b8b), (Value.slice a0_3a a0_3n a0_3c)]))])) (.agg #[(Value.int .i64 a2I), (Value.int .i64 a2J), (Value.string b8b), (Value.slice a0_3a a0_3n a0_3c)]) := Pu.ok fun w => by kernel_rfl
theorem a9L (x : J4) : Pu Tryd.prog (xV (Instr.makeInterface 123 (.agg #[(Value.int .i64 x.q9.a8), (Value.int .i64 x.q9.o2), (Value.string x.q9.b7), (Value.slice x.q9.m7.a x.q9.m7.n x.q9.m7.c)]))) (C0 (d7.F7 x)) := Pu.ok fun w => rfl
abbrev t6 (x : d7) : List Value := [(C0 x)]
theorem O3 (x : d7) : (t6 x).length = 1 := rfl
theorem P0 (x : d7) : (t6 x).all (·.oneCell') = true := c6d x
theorem a9M (a0 : d7) (w : World) : (Instr.buildSlice 124 1 #[(0, (C0 a0))]).run Tryd.prog w = .ok (.slice (some ⟨w.heap.size, 0, none⟩) 1 1) (w.alloc (.cells [(C0 a0)].toArray 152)) := by cases a0 <;> kernel_rfl
theorem c4B (a2I : Int) (a2J : Int) (b8b : ByteArray) (a0_3a : Option Addr) (a0_3n a0_3c : Nat) (w : World) : (Instr.buildSlice 22 1 #[(0, (Value.agg #[(Value.int .i64 a2I), (Value.int .i64 a2J), (Value.string b8b), (Value.slice a0_3a a0_3n a0_3c)]))]).run Tryd.prog w = .ok (.slice (some ⟨w.heap.size, 0, none⟩) 1 1) (w.alloc (.cells [(Value.int .i64 a2I), (Value.int .i64 a2J), (Value.string b8b), (Value.slice a0_3a a0_3n a0_3c)].toArray 24)) := by kernel_rfl
theorem e8G : Tryd.prog.info? 24 = some ((Tryd.prog.info? 24).getD default) := by kernel_rfl
theorem d6w {E : Pan} {w0 w : World} {ps : Nat → Prop} {H0 H : Hp} {Fs : List Frag} {K : Value → World → Prop} {s : Sl} {xs : List b5} {F : Frag} {t2 : Sl} {ys : List b5} {ks : List Bool} {ty : TypeId} (I : Inv w0 ps H0 H (F :: Fs) w) (hr : RowL 24 4 b6 s xs F) (hs : SrcO w b6 t2 ys) (hb : (xs.length + ys.length) * 57 ≤ 140737488355328) (h : ∀ (s' : Sl) (F' : Frag) (w' : World), RowL 24 4 b6 s' (xs ++ ys) F' → Inv w0 ps H0 H (F' :: Fs) w' → (∀ k, k < w.heap.size → (∀ p ∈ F, p.1 ≠ k) → w'.heap[k]? = w.heap[k]?) → K (.slice s'.a s'.n s'.c) w') : opK Tryd.prog E (xBuiltin .append #[22, 22] ty ks [.slice s.a s.n s.c, .slice t2.a t2.n t2.c]) w K :=
  b5X (bytes := 56) Tryd.underlying22 e8G (z := (Value.agg #[(Value.int .i64 0), (Value.int .i64 0), (Value.string ⟨#[]⟩), (Value.slice none 0 0)])) (by kernel_rfl) (by kernel_rfl) (by kernel_rfl) (by kernel_rfl) I hr hs hb h
theorem b8d (a2I : Int) (a2J : Int) (a0_2a : Option Addr) (a0_2n a0_2c : Nat) (a0_3a : Option Addr) (a0_3n a0_3c : Nat) : Pu Tryd.prog (xV (Instr.build 138 #[(0, (Value.agg #[(Value.int .i64 a2I), (Value.int .i64 a2J), (Value.slice a0_2a a0_2n a0_2c), (Value.slice a0_3a a0_3n a0_3c)]))])) (.agg #[(Value.int .i64 a2I), (Value.int .i64 a2J), (Value.slice a0_2a a0_2n a0_2c), (Value.slice a0_3a a0_3n a0_3c)]) := Pu.ok fun w => by kernel_rfl
theorem b5l (x : N0) : Pu Tryd.prog (xV (Instr.makeInterface 138 (.agg #[(Value.int .i64 x.p5.a8), (Value.int .i64 x.p5.fOp), (Value.slice x.p5.g8.a x.p5.g8.n x.p5.g8.c), (Value.slice x.p5.q8.a x.p5.q8.n x.p5.q8.c)]))) (C0 (d7.L8 x)) := Pu.ok fun w => rfl
abbrev d5 (x : b8) : List Value := [(Value.int .i64 x.a8), (Value.int .i64 x.fOp), (Value.slice x.g8.a x.g8.n x.g8.c), (Value.slice x.q8.a x.q8.n x.q8.c)]
theorem a8w (x : b8) : (d5 x).length = 4 := rfl
theorem a8x (x : b8) : (d5 x).all (·.oneCell') = true := rfl
theorem d1z (a2I : Int) (a2J : Int) (a0_2a : Option Addr) (a0_2n a0_2c : Nat) (a0_3a : Option Addr) (a0_3n a0_3c : Nat) (w : World) : (Instr.buildSlice 25 1 #[(0, (Value.agg #[(Value.int .i64 a2I), (Value.int .i64 a2J), (Value.slice a0_2a a0_2n a0_2c), (Value.slice a0_3a a0_3n a0_3c)]))]).run Tryd.prog w = .ok (.slice (some ⟨w.heap.size, 0, none⟩) 1 1) (w.alloc (.cells [(Value.int .i64 a2I), (Value.int .i64 a2J), (Value.slice a0_2a a0_2n a0_2c), (Value.slice a0_3a a0_3n a0_3c)].toArray 27)) := by kernel_rfl
theorem e8H : Tryd.prog.info? 27 = some ((Tryd.prog.info? 27).getD default) := by kernel_rfl
theorem d6x {E : Pan} {w0 w : World} {ps : Nat → Prop} {H0 H : Hp} {Fs : List Frag} {K : Value → World → Prop} {s : Sl} {xs : List b8} {F : Frag} {t2 : Sl} {ys : List b8} {ks : List Bool} {ty : TypeId} (I : Inv w0 ps H0 H (F :: Fs) w) (hr : RowL 27 4 d5 s xs F) (hs : SrcO w d5 t2 ys) (hb : (xs.length + ys.length) * 65 ≤ 140737488355328) (h : ∀ (s' : Sl) (F' : Frag) (w' : World), RowL 27 4 d5 s' (xs ++ ys) F' → Inv w0 ps H0 H (F' :: Fs) w' → (∀ k, k < w.heap.size → (∀ p ∈ F, p.1 ≠ k) → w'.heap[k]? = w.heap[k]?) → K (.slice s'.a s'.n s'.c) w') : opK Tryd.prog E (xBuiltin .append #[25, 25] ty ks [.slice s.a s.n s.c, .slice t2.a t2.n t2.c]) w K :=
  b5X (bytes := 64) Tryd.underlying25 e8H (z := (Value.agg #[(Value.int .i64 0), (Value.int .i64 0), (Value.slice none 0 0), (Value.slice none 0 0)])) (by kernel_rfl) (by kernel_rfl) (by kernel_rfl) (by kernel_rfl) I hr hs hb h
theorem c2H (k : IntKind) (n : Int) : Pu Tryd.prog (xV (convert 2 96 (.int k n))) (.int .u64 (IntKind.wrap .u64 n)) := Pu.ok fun w => run_convert_int (P := Tryd.prog) (w := w) 2 96 k n (by rw [Tryd.underlying2]; rfl) Tryd.underlying96
theorem c6f (a0a : Option Addr) (a0n a0c : Nat) (a1a : Option Addr) (a1n a1c : Nat) : Pu Tryd.prog (xV (Instr.build 44 #[(0, (Value.slice a0a a0n a0c)), (1, (Value.slice a1a a1n a1c))])) (.agg #[(Value.slice a0a a0n a0c), (Value.slice a1a a1n a1c)]) := Pu.ok fun w => by kernel_rfl
abbrev d8 (x : b9) : List Value := [(Value.int .i64 x.a8), (Value.string x.b7), (Value.slice x.g8.a x.g8.n x.g8.c), (Value.slice x.o9.a x.o9.n x.o9.c), (Value.slice x.v6.a x.v6.n x.v6.c), (Value.slice x.t7.a x.t7.n x.t7.c)]
theorem a6M (x : b9) : (d8 x).length = 6 := rfl
theorem a8y (x : b9) : (d8 x).all (·.oneCell') = true := rfl
theorem e8I : Tryd.prog.info? 63 = some ((Tryd.prog.info? 63).getD default) := by kernel_rfl
theorem d6y {E : Pan} {w0 w : World} {ps : Nat → Prop} {H0 H : Hp} {Fs : List Frag} {K : Value → World → Prop} {s : Sl} {xs : List b9} {F : Frag} {t2 : Sl} {ys : List b9} {ks : List Bool} {ty : TypeId} (I : Inv w0 ps H0 H (F :: Fs) w) (hr : RowL 63 6 d8 s xs F) (hs : SrcO w d8 t2 ys) (hb : (xs.length + ys.length) * 121 ≤ 140737488355328) (h : ∀ (s' : Sl) (F' : Frag) (w' : World), RowL 63 6 d8 s' (xs ++ ys) F' → Inv w0 ps H0 H (F' :: Fs) w' → (∀ k, k < w.heap.size → (∀ p ∈ F, p.1 ≠ k) → w'.heap[k]? = w.heap[k]?) → K (.slice s'.a s'.n s'.c) w') : opK Tryd.prog E (xBuiltin .append #[42, 42] ty ks [.slice s.a s.n s.c, .slice t2.a t2.n t2.c]) w K :=
  b5X (bytes := 120) Tryd.underlying42 e8I (z := (Value.agg #[(Value.int .i64 0), (Value.string ⟨#[]⟩), (Value.slice none 0 0), (Value.slice none 0 0), (Value.slice none 0 0), (Value.slice none 0 0)])) (by kernel_rfl) (by kernel_rfl) (by kernel_rfl) (by kernel_rfl) I hr hs hb h
theorem c7f (a0a : Option Addr) (a0n a0c : Nat) (a1a : Option Addr) (a1n a1c : Nat) (w : World) : (Instr.buildSlice 174 2 #[(0, (Value.slice a0a a0n a0c)), (1, (Value.slice a1a a1n a1c))]).run Tryd.prog w = .ok (.slice (some ⟨w.heap.size, 0, none⟩) 2 2) (w.alloc (.cells [(Value.slice a0a a0n a0c), (Value.slice a1a a1n a1c)].toArray 124)) := by kernel_rfl
theorem b0C (a : Option Addr) (n c : Nat) : Pu Tryd.prog (xBuiltin .len #[41] 3 [false] [.slice a n c]) (.int .i64 (n : Int)) := a3V Tryd.underlying41 a n c
theorem b6c {a : Option Addr} {g o : Nat} (ha : a = some ⟨g, o, none⟩) (len cap : Nat) (k : IntKind) (i : Int) (h0 : 0 ≤ i) (h1 : i < len) : Pu Tryd.prog (xV (Instr.indexAt 41 (.slice a len cap) (.int k i))) (.pointer (some ⟨g, o + i.toNat * 2, none⟩)) := a4L Tryd.underlying41 Tryd.sizeOf58 ha len cap k i h0 h1
theorem e8J (d : Nat) (a0 b0 : ByteArray) (a1 b1 : Int) (w : World) : (Op.equalIn (d + 2) 58 (.agg #[(Value.string a0), (Value.int .i64 a1)]) (.agg #[(Value.string b0), (Value.int .i64 b1)])).run Tryd.prog w = .ok (decide (a0 = b0 ∧ a1 = b1)) w := by
  have u9 := Tryd.underlying9
  have i9 := Tryd.isAgg9
  have s9 := Tryd.sizeOf9
  have u3 := Tryd.underlying3
  have i3 := Tryd.isAgg3
  have s3 := Tryd.sizeOf3
  have hS : Tryd.prog.underlying 58 = some (.struct (Tryd.prog.fieldsOf 58)) := by kernel_rfl
  rw [run_equalIn_agg w (d + 1) 58 _ _ hS (by kernel_rfl)]
  simp only [Program.fieldsOf, Tryd.underlying58]
  go_simp
  try simp only [c0T]
  by_cases h0 : a0 = b0
  · by_cases h1 : a1 = b1
    · simp [h0, h1]
    · simp [h0, h1]
  · simp [h0]
theorem d9q (x y : Operand) (a0 b0 : ByteArray) (a1 b1 : Int) : Pu Tryd.prog (xBin .neq 58 x y (.agg #[(Value.string a0), (Value.int .i64 a1)]) (.agg #[(Value.string b0), (Value.int .i64 b1)])) (.bool (!decide (a0 = b0 ∧ a1 = b1))) := by
  refine Pu.ok (s := do eqGuard .neq 58 x y (.agg #[(Value.string a0), (Value.int .i64 a1)]) (.agg #[(Value.string b0), (Value.int .i64 b1)]); binOp .neq 58 (.agg #[(Value.string a0), (Value.int .i64 a1)]) (.agg #[(Value.string b0), (Value.int .i64 b1)])) fun w => ?_
  rw [Sem.run_bind, run_eqGuard_agg w _ _ _ _ _ _ (by kernel_rfl), Result.andThen_ok, run_neq_struct, show (10000 : Nat) = 9998 + 2 from rfl, e8J]
  rfl
theorem d2q  : Pu Tryd.prog (xV (Instr.build 106 #[])) (.agg #[(Value.int .i64 0), (Value.int .i64 0), (Value.int .i64 0), (Value.bool false), (Value.bool false), (Value.slice none 0 0)]) := Pu.ok fun w => by kernel_rfl
abbrev J9 (x : ByteArray) : List Value := [(Value.string x)]
theorem c0J (x : ByteArray) : (J9 x).length = 1 := rfl
theorem c0K (x : ByteArray) : (J9 x).all (·.oneCell') = true := rfl
theorem b1i (a : Option Addr) (n c : Nat) : Pu Tryd.prog (xBuiltin .len #[124] 3 [false] [.slice a n c]) (.int .i64 (n : Int)) := a3V Tryd.underlying124 a n c
theorem d6z {a : Option Addr} {g o : Nat} (ha : a = some ⟨g, o, none⟩) (len cap : Nat) (k : IntKind) (i : Int) (h0 : 0 ≤ i) (h1 : i < len) : Pu Tryd.prog (xV (Instr.indexAt 124 (.slice a len cap) (.int k i))) (.pointer (some ⟨g, o + i.toNat * 1, none⟩)) := a4L Tryd.underlying124 Tryd.sizeOf152 ha len cap k i h0 h1
theorem b4u {g o : Nat} : Pu Tryd.prog (xV (Instr.fieldAt 106 (.pointer (some ⟨g, o, none⟩)) 3)) (.pointer (some ⟨g, o + 3, none⟩)) := Pu.ok fun w => by kernel_rfl
theorem b4v {g o : Nat} : Pu Tryd.prog (xV (Instr.fieldAt 106 (.pointer (some ⟨g, o, none⟩)) 4)) (.pointer (some ⟨g, o + 4, none⟩)) := Pu.ok fun w => by kernel_rfl
theorem b4w {g o : Nat} : Pu Tryd.prog (xV (Instr.fieldAt 106 (.pointer (some ⟨g, o, none⟩)) 5)) (.pointer (some ⟨g, o + 5, none⟩)) := Pu.ok fun w => by kernel_rfl
theorem d9r (a0 : ByteArray) (w : World) : (Instr.buildSlice 104 1 #[(0, (Value.string a0))]).run Tryd.prog w = .ok (.slice (some ⟨w.heap.size, 0, none⟩) 1 1) (w.alloc (.cells [(Value.string a0)].toArray 9)) := by kernel_rfl
theorem g1L : Tryd.prog.info? 9 = some ((Tryd.prog.info? 9).getD default) := by kernel_rfl
theorem e4o {E : Pan} {w0 w : World} {ps : Nat → Prop} {H0 H : Hp} {Fs : List Frag} {K : Value → World → Prop} {s : Sl} {xs : List ByteArray} {F : Frag} {t2 : Sl} {ys : List ByteArray} {ks : List Bool} {ty : TypeId} (I : Inv w0 ps H0 H (F :: Fs) w) (hr : RowL 9 1 J9 s xs F) (hs : SrcO w J9 t2 ys) (hb : (xs.length + ys.length) * 17 ≤ 140737488355328) (h : ∀ (s' : Sl) (F' : Frag) (w' : World), RowL 9 1 J9 s' (xs ++ ys) F' → Inv w0 ps H0 H (F' :: Fs) w' → (∀ k, k < w.heap.size → (∀ p ∈ F, p.1 ≠ k) → w'.heap[k]? = w.heap[k]?) → K (.slice s'.a s'.n s'.c) w') : opK Tryd.prog E (xBuiltin .append #[104, 104] ty ks [.slice s.a s.n s.c, .slice t2.a t2.n t2.c]) w K :=
  b5X (bytes := 16) Tryd.underlying104 g1L (z := (Value.string ⟨#[]⟩)) (by kernel_rfl) (by kernel_rfl) (by kernel_rfl) (by kernel_rfl) I hr hs hb h
theorem a0i {g o : Nat} (k : IntKind) (i : Int) (h0 : 0 ≤ i) (h1 : i < 2) : Pu Tryd.prog (xV (Instr.indexAt 164 (.pointer (some ⟨g, o, none⟩)) (.int k i))) (.pointer (some ⟨g, o + i.toNat * 1, none⟩)) := d1b Tryd.underlying164 Tryd.sizeOf2 k i h0 h1
theorem c0L (a0 : Int) : Pu Tryd.prog (xV (Instr.build 27 #[(0, (Value.int .i64 a0))])) (.agg #[(Value.int .i64 a0), (Value.int .i64 0), (Value.slice none 0 0), (Value.slice none 0 0)]) := Pu.ok fun w => by kernel_rfl
theorem a6U : Pu Tryd.prog (xV (Instr.build 171 #[(0, (Value.func (.func 123) #[] #[])), (1, (Value.func (.func 124) #[] #[])), (2, (Value.func (.func 125) #[] #[])), (3, (Value.func (.func 126) #[] #[])), (4, (Value.func (.func 127) #[] #[])), (5, (Value.func (.func 128) #[] #[])), (6, (Value.func (.func 129) #[] #[]))])) (.agg #[(Value.func (.func 123) #[] #[]), (Value.func (.func 124) #[] #[]), (Value.func (.func 125) #[] #[]), (Value.func (.func 126) #[] #[]), (Value.func (.func 127) #[] #[]), (Value.func (.func 128) #[] #[]), (Value.func (.func 129) #[] #[])]) := Pu.ok fun w => by kernel_rfl
theorem X4 (k : IntKind) (i : Int) (h0 : 0 ≤ i) (h1 : i < 7) : Pu Tryd.prog (xV (Instr.index 171 (.agg #[(Value.func (.func 123) #[] #[]), (Value.func (.func 124) #[] #[]), (Value.func (.func 125) #[] #[]), (Value.func (.func 126) #[] #[]), (Value.func (.func 127) #[] #[]), (Value.func (.func 128) #[] #[]), (Value.func (.func 129) #[] #[])]) (.int k i))) (([(Value.func (.func 123) #[] #[]), (Value.func (.func 124) #[] #[]), (Value.func (.func 125) #[] #[]), (Value.func (.func 126) #[] #[]), (Value.func (.func 127) #[] #[]), (Value.func (.func 128) #[] #[]), (Value.func (.func 129) #[] #[])] : List Value).getD i.toNat undef) := by
  obtain rfl | rfl | rfl | rfl | rfl | rfl | rfl := (by omega : i = 0 ∨ i = 1 ∨ i = 2 ∨ i = 3 ∨ i = 4 ∨ i = 5 ∨ i = 6)
  · exact Pu.ok fun w => by kernel_rfl
  · exact Pu.ok fun w => by kernel_rfl
  · exact Pu.ok fun w => by kernel_rfl
  · exact Pu.ok fun w => by kernel_rfl
  · exact Pu.ok fun w => by kernel_rfl
  · exact Pu.ok fun w => by kernel_rfl
  · exact Pu.ok fun w => by kernel_rfl
theorem d1d (x y : Operand) (s : Sl) : Pu Tryd.prog (xBin .eql 41 x y (vs s) (.slice none 0 0)) (.bool s.a.isNone) := d6r _ _ _ s Tryd.underlying41
abbrev p6 (x : t1) : List Value := [(Value.string x.b7), (Value.int .i64 x.Z2)]
theorem b7G (x : t1) : (p6 x).length = 2 := rfl
theorem c6g (x : t1) : (p6 x).all (·.oneCell') = true := rfl
theorem e4p  (w : World) : (Instr.buildSlice 41 0 #[]).run Tryd.prog w = .ok (.slice (some ⟨w.heap.size, 0, none⟩) 0 0) (w.alloc (.cells [].toArray 58)) := by kernel_rfl
theorem e8K : Tryd.prog.info? 58 = some ((Tryd.prog.info? 58).getD default) := by kernel_rfl
theorem e8L {E : Pan} {w0 w : World} {ps : Nat → Prop} {H0 H : Hp} {Fs : List Frag} {K : Value → World → Prop} {s : Sl} {xs : List t1} {F : Frag} {t2 : Sl} {ys : List t1} {ks : List Bool} {ty : TypeId} (I : Inv w0 ps H0 H (F :: Fs) w) (hr : RowL 58 2 p6 s xs F) (hs : SrcO w p6 t2 ys) (hb : (xs.length + ys.length) * 25 ≤ 140737488355328) (h : ∀ (s' : Sl) (F' : Frag) (w' : World), RowL 58 2 p6 s' (xs ++ ys) F' → Inv w0 ps H0 H (F' :: Fs) w' → (∀ k, k < w.heap.size → (∀ p ∈ F, p.1 ≠ k) → w'.heap[k]? = w.heap[k]?) → K (.slice s'.a s'.n s'.c) w') : opK Tryd.prog E (xBuiltin .append #[41, 41] ty ks [.slice s.a s.n s.c, .slice t2.a t2.n t2.c]) w K :=
  b5X (bytes := 24) Tryd.underlying41 e8K (z := (Value.agg #[(Value.string ⟨#[]⟩), (Value.int .i64 0)])) (by kernel_rfl) (by kernel_rfl) (by kernel_rfl) (by kernel_rfl) I hr hs hb h
theorem d1A (a2I : Int) (a2J : ByteArray) (a0_2a : Option Addr) (a0_2n a0_2c : Nat) (a0_3a : Option Addr) (a0_3n a0_3c : Nat) (a0_4a : Option Addr) (a0_4n a0_4c : Nat) (a0_5a : Option Addr) (a0_5n a0_5c : Nat) (w : World) : (Instr.buildSlice 42 1 #[(0, (Value.agg #[(Value.int .i64 a2I), (Value.string a2J), (Value.slice a0_2a a0_2n a0_2c), (Value.slice a0_3a a0_3n a0_3c), (Value.slice a0_4a a0_4n a0_4c), (Value.slice a0_5a a0_5n a0_5c)]))]).run Tryd.prog w = .ok (.slice (some ⟨w.heap.size, 0, none⟩) 1 1) (w.alloc (.cells [(Value.int .i64 a2I), (Value.string a2J), (Value.slice a0_2a a0_2n a0_2c), (Value.slice a0_3a a0_3n a0_3c), (Value.slice a0_4a a0_4n a0_4c), (Value.slice a0_5a a0_5n a0_5c)].toArray 63)) := by kernel_rfl
theorem c2I (a : Option Addr) (n c : Nat) : Pu Tryd.prog (xBuiltin .len #[174] 3 [false] [.slice a n c]) (.int .i64 (n : Int)) := a3V Tryd.underlying174 a n c
theorem c5K {a : Option Addr} {g o : Nat} (ha : a = some ⟨g, o, none⟩) (len cap : Nat) (k : IntKind) (i : Int) (h0 : 0 ≤ i) (h1 : i < len) : Pu Tryd.prog (xV (Instr.indexAt 174 (.slice a len cap) (.int k i))) (.pointer (some ⟨g, o + i.toNat * 1, none⟩)) := a4L Tryd.underlying174 Tryd.sizeOf124 ha len cap k i h0 h1
theorem d6A (s : ByteArray) : Pu Tryd.prog (xV (Instr.makeInterface 9 (.string s))) (.iface 9 (.string s)) := Pu.ok fun w => by kernel_rfl
theorem d1B : Tryd.prog.info? 152 = some ((Tryd.prog.info? 152).getD default) := by kernel_rfl
theorem b5m {E : Pan} {w0 w : World} {ps : Nat → Prop} {H0 H : Hp} {Fs : List Frag} {K : Value → World → Prop} {s : Sl} {xs : List d7} {F : Frag} {t2 : Sl} {ys : List d7} {ks : List Bool} {ty : TypeId} (I : Inv w0 ps H0 H (F :: Fs) w) (hr : RowL 152 1 t6 s xs F) (hs : SrcO w t6 t2 ys) (hb : (xs.length + ys.length) * 17 ≤ 140737488355328) (h : ∀ (s' : Sl) (F' : Frag) (w' : World), RowL 152 1 t6 s' (xs ++ ys) F' → Inv w0 ps H0 H (F' :: Fs) w' → (∀ k, k < w.heap.size → (∀ p ∈ F, p.1 ≠ k) → w'.heap[k]? = w.heap[k]?) → K (.slice s'.a s'.n s'.c) w') : opK Tryd.prog E (xBuiltin .append #[124, 124] ty ks [.slice s.a s.n s.c, .slice t2.a t2.n t2.c]) w K :=
  b5X (bytes := 16) Tryd.underlying124 d1B (z := Value.nilIface) (by kernel_rfl) (by kernel_rfl) (by kernel_rfl) (by kernel_rfl) I hr hs hb h
theorem c7g (a2I : ByteArray) (a2J : Int) : Pu Tryd.prog (xV (Instr.build 177 #[(0, (Value.agg #[(Value.string a2I), (Value.int .i64 a2J)]))])) (.agg #[(Value.string a2I), (Value.int .i64 a2J)]) := Pu.ok fun w => by kernel_rfl
theorem c4C (x : T3) : Pu Tryd.prog (xV (Instr.makeInterface 177 (.agg #[(Value.string x.T4.b7), (Value.int .i64 x.T4.Z2)]))) (C0 (d7.N4 x)) := Pu.ok fun w => rfl
theorem c7h (a2I : Int) (a2J : ByteArray) (a0_2a : Option Addr) (a0_2n a0_2c : Nat) (a0_3a : Option Addr) (a0_3n a0_3c : Nat) (a0_4a : Option Addr) (a0_4n a0_4c : Nat) (a0_5a : Option Addr) (a0_5n a0_5c : Nat) : Pu Tryd.prog (xV (Instr.build 179 #[(0, (Value.agg #[(Value.int .i64 a2I), (Value.string a2J), (Value.slice a0_2a a0_2n a0_2c), (Value.slice a0_3a a0_3n a0_3c), (Value.slice a0_4a a0_4n a0_4c), (Value.slice a0_5a a0_5n a0_5c)]))])) (.agg #[(Value.int .i64 a2I), (Value.string a2J), (Value.slice a0_2a a0_2n a0_2c), (Value.slice a0_3a a0_3n a0_3c), (Value.slice a0_4a a0_4n a0_4c), (Value.slice a0_5a a0_5n a0_5c)]) := Pu.ok fun w => by kernel_rfl
theorem c4D (x : P8) : Pu Tryd.prog (xV (Instr.makeInterface 179 (.agg #[(Value.int .i64 x.f7.a8), (Value.string x.f7.b7), (Value.slice x.f7.g8.a x.f7.g8.n x.f7.g8.c), (Value.slice x.f7.o9.a x.f7.o9.n x.f7.o9.c), (Value.slice x.f7.v6.a x.f7.v6.n x.f7.v6.c), (Value.slice x.f7.t7.a x.f7.t7.n x.f7.t7.c)]))) (C0 (d7.K7 x)) := Pu.ok fun w => rfl
theorem b1j {g o : Nat} : Pu Tryd.prog (xV (Instr.fieldAt 58 (.pointer (some ⟨g, o, none⟩)) 1)) (.pointer (some ⟨g, o + 1, none⟩)) := Pu.ok fun w => by kernel_rfl
theorem c6h (x : d7) : Pu Tryd.prog (xV (Instr.typeAssert (C0 x) 152 177 true)) (.tuple #[(Value.agg #[(Value.string ((((x.X5)).T4).b7)), (Value.int .i64 ((((x.X5)).T4).Z2))]), .bool (x.a7L)]) := by
  cases x <;> exact Pu.ok fun w => by kernel_rfl
theorem b4x {g o : Nat} : Pu Tryd.prog (xV (Instr.fieldAt 177 (.pointer (some ⟨g, o, none⟩)) 0)) (.pointer (some ⟨g, o + 0, none⟩)) := Pu.ok fun w => by kernel_rfl
theorem a7Q {g o : Nat} : Pu Tryd.prog (xV (Instr.fieldAt 58 (.pointer (some ⟨g, o, none⟩)) 0)) (.pointer (some ⟨g, o + 0, none⟩)) := Pu.ok fun w => by kernel_rfl
theorem c6i (x : d7) : Pu Tryd.prog (xV (Instr.typeAssert (C0 x) 152 179 true)) (.tuple #[(Value.agg #[(Value.int .i64 ((((x.m5)).f7).a8)), (Value.string ((((x.m5)).f7).b7)), (Value.slice ((((x.m5)).f7).g8).a ((((x.m5)).f7).g8).n ((((x.m5)).f7).g8).c), (Value.slice ((((x.m5)).f7).o9).a ((((x.m5)).f7).o9).n ((((x.m5)).f7).o9).c), (Value.slice ((((x.m5)).f7).v6).a ((((x.m5)).f7).v6).n ((((x.m5)).f7).v6).c), (Value.slice ((((x.m5)).f7).t7).a ((((x.m5)).f7).t7).n ((((x.m5)).f7).t7).c)]), .bool (x.a7M)]) := by
  cases x <;> exact Pu.ok fun w => by kernel_rfl
theorem O7 {g o : Nat} : Pu Tryd.prog (xV (Instr.fieldAt 179 (.pointer (some ⟨g, o, none⟩)) 0)) (.pointer (some ⟨g, o + 0, none⟩)) := Pu.ok fun w => by kernel_rfl
theorem c6j (x : d7) : Pu Tryd.prog (xV (Instr.typeAssert (C0 x) 152 123 true)) (.tuple #[(Value.agg #[(Value.int .i64 ((((x.y9)).q9).a8)), (Value.int .i64 ((((x.y9)).q9).o2)), (Value.string ((((x.y9)).q9).b7)), (Value.slice ((((x.y9)).q9).m7).a ((((x.y9)).q9).m7).n ((((x.y9)).q9).m7).c)]), .bool (x.a7K)]) := by
  cases x <;> exact Pu.ok fun w => by kernel_rfl
theorem a0N {g o : Nat} : Pu Tryd.prog (xV (Instr.fieldAt 123 (.pointer (some ⟨g, o, none⟩)) 0)) (.pointer (some ⟨g, o + 0, none⟩)) := Pu.ok fun w => by kernel_rfl
theorem d6B {a : Option Addr} {g o : Nat} (ha : a = some ⟨g, o, none⟩) (len cap : Nat) (k : IntKind) (i : Int) (h0 : 0 ≤ i) (h1 : i < len) : Pu Tryd.prog (xV (Instr.indexAt 104 (.slice a len cap) (.int k i))) (.pointer (some ⟨g, o + i.toNat * 1, none⟩)) := a4L Tryd.underlying104 Tryd.sizeOf9 ha len cap k i h0 h1
theorem a2p {g o : Nat} : Pu Tryd.prog (xV (Instr.fieldAt 138 (.pointer (some ⟨g, o, none⟩)) 0)) (.pointer (some ⟨g, o + 0, none⟩)) := Pu.ok fun w => by kernel_rfl
theorem a7R (a0 : Int) (a1 : Int) : Pu Tryd.prog (xV (Instr.build 223 #[(0, (Value.int .i64 a0)), (1, (Value.int .i64 a1))])) (.agg #[(Value.int .i64 a0), (Value.int .i64 a1)]) := Pu.ok fun w => by kernel_rfl
theorem e4q (d : Nat) (a0 b0 : Int) (a1 b1 : Int) (w : World) : (Op.equalIn (d + 2) 223 (.agg #[(Value.int .i64 a0), (Value.int .i64 a1)]) (.agg #[(Value.int .i64 b0), (Value.int .i64 b1)])).run Tryd.prog w = .ok (decide (a0 = b0 ∧ a1 = b1)) w := by
  have u3 := Tryd.underlying3
  have i3 := Tryd.isAgg3
  have s3 := Tryd.sizeOf3
  have hS : Tryd.prog.underlying 223 = some (.struct (Tryd.prog.fieldsOf 223)) := by kernel_rfl
  rw [run_equalIn_agg w (d + 1) 223 _ _ hS (by kernel_rfl)]
  simp only [Program.fieldsOf, Tryd.underlying223]
  go_simp
  try simp only [c0T]
  by_cases h0 : a0 = b0
  · by_cases h1 : a1 = b1
    · simp [h0, h1]
    · simp [h0, h1]
  · simp [h0]
theorem b3P (x y : Operand) (a0 b0 : Int) (a1 b1 : Int) : Pu Tryd.prog (xBin .eql 223 x y (.agg #[(Value.int .i64 a0), (Value.int .i64 a1)]) (.agg #[(Value.int .i64 b0), (Value.int .i64 b1)])) (.bool (decide (a0 = b0 ∧ a1 = b1))) := by
  refine Pu.ok (s := do eqGuard .eql 223 x y (.agg #[(Value.int .i64 a0), (Value.int .i64 a1)]) (.agg #[(Value.int .i64 b0), (Value.int .i64 b1)]); binOp .eql 223 (.agg #[(Value.int .i64 a0), (Value.int .i64 a1)]) (.agg #[(Value.int .i64 b0), (Value.int .i64 b1)])) fun w => ?_
  rw [Sem.run_bind, run_eqGuard_agg w _ _ _ _ _ _ (by kernel_rfl), Result.andThen_ok, run_eql_struct, show (10000 : Nat) = 9998 + 2 from rfl, e4q]
  rfl
theorem d2r  : Pu Tryd.prog (xV (Instr.build 223 #[])) (.agg #[(Value.int .i64 0), (Value.int .i64 0)]) := Pu.ok fun w => by kernel_rfl
theorem a3S (a0 : Int) (a1 : Int) : Pu Tryd.prog (xV (Instr.build 227 #[(0, (Value.int .i64 a0)), (1, (Value.int .i64 a1))])) (.agg #[(Value.int .i64 a0), (Value.int .i64 a1)]) := Pu.ok fun w => by kernel_rfl
theorem e4r (d : Nat) (a0 b0 : Int) (a1 b1 : Int) (w : World) : (Op.equalIn (d + 2) 227 (.agg #[(Value.int .i64 a0), (Value.int .i64 a1)]) (.agg #[(Value.int .i64 b0), (Value.int .i64 b1)])).run Tryd.prog w = .ok (decide (a0 = b0 ∧ a1 = b1)) w := by
  have u3 := Tryd.underlying3
  have i3 := Tryd.isAgg3
  have s3 := Tryd.sizeOf3
  have hS : Tryd.prog.underlying 227 = some (.struct (Tryd.prog.fieldsOf 227)) := by kernel_rfl
  rw [run_equalIn_agg w (d + 1) 227 _ _ hS (by kernel_rfl)]
  simp only [Program.fieldsOf, Tryd.underlying227]
  go_simp
  try simp only [c0T]
  by_cases h0 : a0 = b0
  · by_cases h1 : a1 = b1
    · simp [h0, h1]
    · simp [h0, h1]
  · simp [h0]
theorem a8W (x y : Operand) (a0 b0 : Int) (a1 b1 : Int) : Pu Tryd.prog (xBin .eql 227 x y (.agg #[(Value.int .i64 a0), (Value.int .i64 a1)]) (.agg #[(Value.int .i64 b0), (Value.int .i64 b1)])) (.bool (decide (a0 = b0 ∧ a1 = b1))) := by
  refine Pu.ok (s := do eqGuard .eql 227 x y (.agg #[(Value.int .i64 a0), (Value.int .i64 a1)]) (.agg #[(Value.int .i64 b0), (Value.int .i64 b1)]); binOp .eql 227 (.agg #[(Value.int .i64 a0), (Value.int .i64 a1)]) (.agg #[(Value.int .i64 b0), (Value.int .i64 b1)])) fun w => ?_
  rw [Sem.run_bind, run_eqGuard_agg w _ _ _ _ _ _ (by kernel_rfl), Result.andThen_ok, run_eql_struct, show (10000 : Nat) = 9998 + 2 from rfl, e4r]
  rfl
theorem d2s  : Pu Tryd.prog (xV (Instr.build 227 #[])) (.agg #[(Value.int .i64 0), (Value.int .i64 0)]) := Pu.ok fun w => by kernel_rfl
theorem d9s (a0a : Option Addr) (a0n a0c : Nat) (a1a : Option Addr) (a1n a1c : Nat) (a2a : Option Addr) (a2n a2c : Nat) (a3a : Option Addr) (a3n a3c : Nat) (w : World) : (Instr.buildSlice 174 4 #[(0, (Value.slice a0a a0n a0c)), (1, (Value.slice a1a a1n a1c)), (2, (Value.slice a2a a2n a2c)), (3, (Value.slice a3a a3n a3c))]).run Tryd.prog w = .ok (.slice (some ⟨w.heap.size, 0, none⟩) 4 4) (w.alloc (.cells [(Value.slice a0a a0n a0c), (Value.slice a1a a1n a1c), (Value.slice a2a a2n a2c), (Value.slice a3a a3n a3c)].toArray 124)) := by kernel_rfl
abbrev f5 (x : j6) : List Value := [(Value.slice x.T9.a x.T9.n x.T9.c), (Value.slice x.a1y.a x.a1y.n x.a1y.c)]
abbrev a7S (x : g9) : List Value := [(Value.int .i64 x.fnodes), (Value.int .i64 x.fdepth), (Value.int .i64 x.fe), (Value.bool x.fform), (Value.bool x.fnamed), (Value.slice x.fnames.a x.fnames.n x.fnames.c)]
end Go.Proofs.YtnhkdkcgdcgmdaaDoor
