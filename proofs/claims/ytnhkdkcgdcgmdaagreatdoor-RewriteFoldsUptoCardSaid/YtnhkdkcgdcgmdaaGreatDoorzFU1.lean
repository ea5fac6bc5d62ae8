/- Single operations at this program's types, and its structures; printed by lift.py. -/
import Derived.Test.YtnhkdkcgdcgmdaaGreatDoorProg
import Derived.Test.YtnhkdkcgdcgmdaaGreatDoorzFS5
import Derived.KernelRfl
import Derived.Laws.StructEq
import Derived.Laws.Tables
import Derived.Laws.Cover2
namespace Go.Proofs.YtnhkdkcgdcgmdaaGreatDoor
open Go.RowKit
set_option maxRecDepth 100000
set_option maxHeartbeats 2000000
structure m5 where
  z8 : Sl
  V3 : Sl
structure a8 where
  b6 : Int
  m8 : Int
  g7 : ByteArray
  i4 : Sl
structure b8 where
  b6 : Int
  fOp : Int
  i6 : Sl
  p8 : Sl
structure e6p where
  fn : Int
  fleft : Int
structure I3 where
  g7 : ByteArray
  a1F : Int
structure d8 where
  b6 : Int
  g7 : ByteArray
  i6 : Sl
  m9 : Sl
  v7 : Sl
  t7 : Sl
structure o5 where
  fnodes : Int
  fdepth : Int
  fe : Int
  fform : Bool
  fnamed : Bool
  fnames : Sl
structure d9 where
  fn : Int
  fdepth : Int
  fbad : Int
structure d7 where
  fok : Bool
  fnames : Bool
structure g4E where
  g7 : ByteArray
  k4S : Bool
structure M2 where
  u2 : a8
structure R7 where
  t1 : b8
structure a0k where
  a0l : I3
structure W3 where
  k9 : d8
structure a8w where
  f0 : Int
  f1 : Int
structure P2 where
  fexprs : Int
  fparts : Int
structure X0 where
  fexprs : Int
  fconds : Int
inductive i5 where
  | nil
  | J8 (x : M2)
  | Q1 (x : R7)
  | S6 (x : a0k)
  | O3 (x : W3)
def E7 : i5 → Value
  | .nil => .nilIface
  | .J8 x => .iface 136 (.agg #[(Value.int .i64 x.u2.b6), (Value.int .i64 x.u2.m8), (Value.string x.u2.g7), (Value.slice x.u2.i4.a x.u2.i4.n x.u2.i4.c)])
  | .Q1 x => .iface 143 (.agg #[(Value.int .i64 x.t1.b6), (Value.int .i64 x.t1.fOp), (Value.slice x.t1.i6.a x.t1.i6.n x.t1.i6.c), (Value.slice x.t1.p8.a x.t1.p8.n x.t1.p8.c)])
  | .S6 x => .iface 182 (.agg #[(Value.string x.a0l.g7), (Value.int .i64 x.a0l.a1F)])
  | .O3 x => .iface 184 (.agg #[(Value.int .i64 x.k9.b6), (Value.string x.k9.g7), (Value.slice x.k9.i6.a x.k9.i6.n x.k9.i6.c), (Value.slice x.k9.m9.a x.k9.m9.n x.k9.m9.c), (Value.slice x.k9.v7.a x.k9.v7.n x.k9.v7.c), (Value.slice x.k9.t7.a x.k9.t7.n x.k9.t7.c)])
theorem d8o (x : i5) : [E7 x].all (·.oneCell') = true := by cases x <;> rfl
def i5.A9 : i5 → M2
  | .J8 x => x
  | _ => (M2.mk (a8.mk 0 0 ⟨#[]⟩ (Sl.mk none 0 0)))
def i5.b3b : i5 → Bool
  | .J8 _ => true
  | _ => false
def i5.a2I : i5 → a0k
  | .S6 x => x
  | _ => (a0k.mk (I3.mk ⟨#[]⟩ 0))
def i5.b3c : i5 → Bool
  | .S6 _ => true
  | _ => false
def i5.p7 : i5 → W3
  | .O3 x => x
  | _ => (W3.mk (d8.mk 0 ⟨#[]⟩ (Sl.mk none 0 0) (Sl.mk none 0 0) (Sl.mk none 0 0) (Sl.mk none 0 0)))
def i5.b3d : i5 → Bool
  | .O3 _ => true
  | _ => false
theorem a1G {g o : Nat} : Pu Tryz.prog (xV (Instr.fieldAt 25 (.pointer (some ⟨g, o, none⟩)) 0)) (.pointer (some ⟨g, o + 0, none⟩)) := Pu.ok fun w => by kernel_rfl
theorem b2t (a : Option Addr) (n c : Nat) : Pu Tryz.prog (xBuiltin .len #[22] 3 [false] [.slice a n c]) (.int .i64 (n : Int)) := a8A Tryz.underlying22 a n c
theorem a3D {g o : Nat} : Pu Tryz.prog (xV (Instr.fieldAt 25 (.pointer (some ⟨g, o, none⟩)) 1)) (.pointer (some ⟨g, o + 1, none⟩)) := Pu.ok fun w => by kernel_rfl
theorem W4 (a : Option Addr) (n c : Nat) : Pu Tryz.prog (xBuiltin .len #[23] 3 [false] [.slice a n c]) (.int .i64 (n : Int)) := a8A Tryz.underlying23 a n c
abbrev b7 (x : a8) : List Value := [(Value.int .i64 x.b6), (Value.int .i64 x.m8), (Value.string x.g7), (Value.slice x.i4.a x.i4.n x.i4.c)]
theorem N7 (x : a8) : (b7 x).length = 4 := rfl
theorem N8 (x : a8) : (b7 x).all (·.oneCell') = true := rfl
theorem d6k (a8B : Int) (a8C : Int) (c8c : ByteArray) (a0_3a : Option Addr) (a0_3n a0_3c : Nat) (h5E : Int) (h5F : Int) (h5G : ByteArray) (a1_3a : Option Addr) (a1_3n a1_3c : Nat) (w : World) : (Instr.buildSlice 51 2 #[(0, (Value.agg #[(Value.int .i64 a8B), (Value.int .i64 a8C), (Value.string c8c), (Value.slice a0_3a a0_3n a0_3c)])), (1, (Value.agg #[(Value.int .i64 h5E), (Value.int .i64 h5F), (Value.string h5G), (Value.slice a1_3a a1_3n a1_3c)]))]).run Tryz.prog w = .ok (.slice (some ⟨w.heap.size, 0, none⟩) 2 2) (w.alloc (.cells [(Value.int .i64 a8B), (Value.int .i64 a8C), (Value.string c8c), (Value.slice a0_3a a0_3n a0_3c), (Value.int .i64 h5E), (Value.int .i64 h5F), (Value.string h5G), (Value.slice a1_3a a1_3n a1_3c)].toArray 53)) := by kernel_rfl
theorem b4b (a0 : Int) (a3a : Option Addr) (a3n a3c : Nat) : Pu Tryz.prog (xV (Instr.build 53 #[(0, (Value.int .i64 a0)), (3, (Value.slice a3a a3n a3c))])) (.agg #[(Value.int .i64 a0), (Value.int .i64 0), (Value.string ⟨#[]⟩), (Value.slice a3a a3n a3c)]) := Pu.ok fun w => by kernel_rfl
theorem d8p (a0 : Int) (a2 : ByteArray) : Pu Tryz.prog (xV (Instr.build 53 #[(0, (Value.int .i64 a0)), (2, (Value.string a2))])) (.agg #[(Value.int .i64 a0), (Value.int .i64 0), (Value.string a2), (Value.slice none 0 0)]) := Pu.ok fun w => by kernel_rfl
theorem d3B (a0 : Int) (a1 : Int) (a2a : Option Addr) (a2n a2c : Nat) : Pu Tryz.prog (xV (Instr.build 59 #[(0, (Value.int .i64 a0)), (1, (Value.int .i64 a1)), (2, (Value.slice a2a a2n a2c))])) (.agg #[(Value.int .i64 a0), (Value.int .i64 a1), (Value.slice a2a a2n a2c), (Value.slice none 0 0)]) := Pu.ok fun w => by kernel_rfl
theorem F7 {g o : Nat} : Pu Tryz.prog (xV (Instr.fieldAt 53 (.pointer (some ⟨g, o, none⟩)) 0)) (.pointer (some ⟨g, o + 0, none⟩)) := Pu.ok fun w => by kernel_rfl
theorem v8 {g o : Nat} : Pu Tryz.prog (xV (Instr.fieldAt 53 (.pointer (some ⟨g, o, none⟩)) 3)) (.pointer (some ⟨g, o + 3, none⟩)) := Pu.ok fun w => by kernel_rfl
theorem J3 (a : Option Addr) (n c : Nat) : Pu Tryz.prog (xBuiltin .len #[51] 3 [false] [.slice a n c]) (.int .i64 (n : Int)) := a8A Tryz.underlying51 a n c
theorem A0 {a : Option Addr} {g o : Nat} (ha : a = some ⟨g, o, none⟩) (len cap : Nat) (k : IntKind) (i : Int) (h0 : 0 ≤ i) (h1 : i < len) : Pu Tryz.prog (xV (Instr.indexAt 51 (.slice a len cap) (.int k i))) (.pointer (some ⟨g, o + i.toNat * 4, none⟩)) := b0Z Tryz.underlying51 Tryz.sizeOf53 ha len cap k i h0 h1
theorem a3E {g o : Nat} : Pu Tryz.prog (xV (Instr.fieldAt 53 (.pointer (some ⟨g, o, none⟩)) 1)) (.pointer (some ⟨g, o + 1, none⟩)) := Pu.ok fun w => by kernel_rfl
theorem Q2 {g o : Nat} : Pu Tryz.prog (xV (Instr.fieldAt 59 (.pointer (some ⟨g, o, none⟩)) 0)) (.pointer (some ⟨g, o + 0, none⟩)) := Pu.ok fun w => by kernel_rfl
theorem c8d  : Pu Tryz.prog (xV (Instr.build 25 #[])) (.agg #[(Value.slice none 0 0), (Value.slice none 0 0)]) := Pu.ok fun w => by kernel_rfl
theorem c7M (a0a : Option Addr) (a0n a0c : Nat) (a1a : Option Addr) (a1n a1c : Nat) : Pu Tryz.prog (xV (Instr.build 25 #[(0, (Value.slice a0a a0n a0c)), (1, (Value.slice a1a a1n a1c))])) (.agg #[(Value.slice a0a a0n a0c), (Value.slice a1a a1n a1c)]) := Pu.ok fun w => by kernel_rfl
abbrev y8 (x : I3) : List Value := [(Value.string x.g7), (Value.int .i64 x.a1F)]
theorem b4c (x : I3) : (y8 x).length = 2 := rfl
theorem c7N (x : I3) : (y8 x).all (·.oneCell') = true := rfl
theorem h5H : Tryz.prog.info? 71 = some ((Tryz.prog.info? 71).getD default) := by kernel_rfl
theorem f5t {E : Pan} {w0 w : World} {ps : Nat → Prop} {H0 H : Hp} {Fs : List Frag} {K : Value → World → Prop} {s : Sl} {xs : List I3} {F : Frag} {t2 : Sl} {ys : List I3} {ks : List Bool} {ty : TypeId} (I : Inv w0 ps H0 H (F :: Fs) w) (hr : RowL 71 2 y8 s xs F) (hs : SrcO w y8 t2 ys) (hb : (xs.length + ys.length) * 25 ≤ 140737488355328) (h : ∀ (s' : Sl) (F' : Frag) (w' : World), RowL 71 2 y8 s' (xs ++ ys) F' → Inv w0 ps H0 H (F' :: Fs) w' → (∀ k, k < w.heap.size → (∀ p ∈ F, p.1 ≠ k) → w'.heap[k]? = w.heap[k]?) → K (.slice s'.a s'.n s'.c) w') : opK Tryz.prog E (xBuiltin .append #[22, 22] ty ks [.slice s.a s.n s.c, .slice t2.a t2.n t2.c]) w K :=
  c9T (bytes := 24) Tryz.underlying22 h5H (z := (Value.agg #[(Value.string ⟨#[]⟩), (Value.int .i64 0)])) (by kernel_rfl) (by kernel_rfl) (by kernel_rfl) (by kernel_rfl) I hr hs hb h
abbrev g8 (x : d8) : List Value := [(Value.int .i64 x.b6), (Value.string x.g7), (Value.slice x.i6.a x.i6.n x.i6.c), (Value.slice x.m9.a x.m9.n x.m9.c), (Value.slice x.v7.a x.v7.n x.v7.c), (Value.slice x.t7.a x.t7.n x.t7.c)]
theorem a3F (x : d8) : (g8 x).length = 6 := rfl
theorem a9p (x : d8) : (g8 x).all (·.oneCell') = true := rfl
theorem a0m {a : Option Addr} {g o : Nat} (ha : a = some ⟨g, o, none⟩) (len cap : Nat) (k : IntKind) (i : Int) (h0 : 0 ≤ i) (h1 : i < len) : Pu Tryz.prog (xV (Instr.indexAt 23 (.slice a len cap) (.int k i))) (.pointer (some ⟨g, o + i.toNat * 6, none⟩)) := b0Z Tryz.underlying23 Tryz.sizeOf73 ha len cap k i h0 h1
theorem O4 {g o : Nat} : Pu Tryz.prog (xV (Instr.fieldAt 73 (.pointer (some ⟨g, o, none⟩)) 0)) (.pointer (some ⟨g, o + 0, none⟩)) := Pu.ok fun w => by kernel_rfl
theorem a9t {g o : Nat} : Pu Tryz.prog (xV (Instr.fieldAt 73 (.pointer (some ⟨g, o, none⟩)) 1)) (.pointer (some ⟨g, o + 1, none⟩)) := Pu.ok fun w => by kernel_rfl
theorem M3 {g o : Nat} : Pu Tryz.prog (xV (Instr.fieldAt 73 (.pointer (some ⟨g, o, none⟩)) 3)) (.pointer (some ⟨g, o + 3, none⟩)) := Pu.ok fun w => by kernel_rfl
theorem U9 (a : Option Addr) (n c : Nat) : Pu Tryz.prog (xBuiltin .len #[57] 3 [false] [.slice a n c]) (.int .i64 (n : Int)) := a8A Tryz.underlying57 a n c
theorem S7 {a : Option Addr} {g o : Nat} (ha : a = some ⟨g, o, none⟩) (len cap : Nat) (k : IntKind) (i : Int) (h0 : 0 ≤ i) (h1 : i < len) : Pu Tryz.prog (xV (Instr.indexAt 57 (.slice a len cap) (.int k i))) (.pointer (some ⟨g, o + i.toNat * 4, none⟩)) := b0Z Tryz.underlying57 Tryz.sizeOf59 ha len cap k i h0 h1
abbrev d6 (x : b8) : List Value := [(Value.int .i64 x.b6), (Value.int .i64 x.fOp), (Value.slice x.i6.a x.i6.n x.i6.c), (Value.slice x.p8.a x.p8.n x.p8.c)]
theorem a2F (x : b8) : (d6 x).length = 4 := rfl
theorem a2G (x : b8) : (d6 x).all (·.oneCell') = true := rfl
theorem c9U (a8B : Int) (a8C : Int) (a0_2a : Option Addr) (a0_2n a0_2c : Nat) (a0_3a : Option Addr) (a0_3n a0_3c : Nat) (w : World) : (Instr.buildSlice 57 1 #[(0, (Value.agg #[(Value.int .i64 a8B), (Value.int .i64 a8C), (Value.slice a0_2a a0_2n a0_2c), (Value.slice a0_3a a0_3n a0_3c)]))]).run Tryz.prog w = .ok (.slice (some ⟨w.heap.size, 0, none⟩) 1 1) (w.alloc (.cells [(Value.int .i64 a8B), (Value.int .i64 a8C), (Value.slice a0_2a a0_2n a0_2c), (Value.slice a0_3a a0_3n a0_3c)].toArray 59)) := by kernel_rfl
theorem h5I : Tryz.prog.info? 59 = some ((Tryz.prog.info? 59).getD default) := by kernel_rfl
theorem d3C {E : Pan} {w0 w : World} {ps : Nat → Prop} {H0 H : Hp} {Fs : List Frag} {K : Value → World → Prop} {s : Sl} {xs : List b8} {F : Frag} {t2 : Sl} {ys : List b8} {ks : List Bool} {ty : TypeId} (I : Inv w0 ps H0 H (F :: Fs) w) (hr : RowL 59 4 d6 s xs F) (hs : SrcO w d6 t2 ys) (hb : (xs.length + ys.length) * 65 ≤ 140737488355328) (h : ∀ (s' : Sl) (F' : Frag) (w' : World), RowL 59 4 d6 s' (xs ++ ys) F' → Inv w0 ps H0 H (F' :: Fs) w' → (∀ k, k < w.heap.size → (∀ p ∈ F, p.1 ≠ k) → w'.heap[k]? = w.heap[k]?) → K (.slice s'.a s'.n s'.c) w') : opK Tryz.prog E (xBuiltin .append #[57, 57] ty ks [.slice s.a s.n s.c, .slice t2.a t2.n t2.c]) w K :=
  c9T (bytes := 64) Tryz.underlying57 h5I (z := (Value.agg #[(Value.int .i64 0), (Value.int .i64 0), (Value.slice none 0 0), (Value.slice none 0 0)])) (by kernel_rfl) (by kernel_rfl) (by kernel_rfl) (by kernel_rfl) I hr hs hb h
theorem R8 {g o : Nat} : Pu Tryz.prog (xV (Instr.fieldAt 73 (.pointer (some ⟨g, o, none⟩)) 2)) (.pointer (some ⟨g, o + 2, none⟩)) := Pu.ok fun w => by kernel_rfl
theorem b6N (a8B : Int) (a8C : Int) (c8c : ByteArray) (a0_3a : Option Addr) (a0_3n a0_3c : Nat) (w : World) : (Instr.buildSlice 51 1 #[(0, (Value.agg #[(Value.int .i64 a8B), (Value.int .i64 a8C), (Value.string c8c), (Value.slice a0_3a a0_3n a0_3c)]))]).run Tryz.prog w = .ok (.slice (some ⟨w.heap.size, 0, none⟩) 1 1) (w.alloc (.cells [(Value.int .i64 a8B), (Value.int .i64 a8C), (Value.string c8c), (Value.slice a0_3a a0_3n a0_3c)].toArray 53)) := by kernel_rfl
theorem h5J : Tryz.prog.info? 53 = some ((Tryz.prog.info? 53).getD default) := by kernel_rfl
theorem c8e {E : Pan} {w0 w : World} {ps : Nat → Prop} {H0 H : Hp} {Fs : List Frag} {K : Value → World → Prop} {s : Sl} {xs : List a8} {F : Frag} {t2 : Sl} {ys : List a8} {ks : List Bool} {ty : TypeId} (I : Inv w0 ps H0 H (F :: Fs) w) (hr : RowL 53 4 b7 s xs F) (hs : SrcO w b7 t2 ys) (hb : (xs.length + ys.length) * 57 ≤ 140737488355328) (h : ∀ (s' : Sl) (F' : Frag) (w' : World), RowL 53 4 b7 s' (xs ++ ys) F' → Inv w0 ps H0 H (F' :: Fs) w' → (∀ k, k < w.heap.size → (∀ p ∈ F, p.1 ≠ k) → w'.heap[k]? = w.heap[k]?) → K (.slice s'.a s'.n s'.c) w') : opK Tryz.prog E (xBuiltin .append #[51, 51] ty ks [.slice s.a s.n s.c, .slice t2.a t2.n t2.c]) w K :=
  c9T (bytes := 56) Tryz.underlying51 h5J (z := (Value.agg #[(Value.int .i64 0), (Value.int .i64 0), (Value.string ⟨#[]⟩), (Value.slice none 0 0)])) (by kernel_rfl) (by kernel_rfl) (by kernel_rfl) (by kernel_rfl) I hr hs hb h
theorem Y7 {g o : Nat} : Pu Tryz.prog (xV (Instr.fieldAt 73 (.pointer (some ⟨g, o, none⟩)) 4)) (.pointer (some ⟨g, o + 4, none⟩)) := Pu.ok fun w => by kernel_rfl
theorem W5 {g o : Nat} : Pu Tryz.prog (xV (Instr.fieldAt 73 (.pointer (some ⟨g, o, none⟩)) 5)) (.pointer (some ⟨g, o + 5, none⟩)) := Pu.ok fun w => by kernel_rfl
theorem d6l (a8B : Int) (a8C : ByteArray) (a0_2a : Option Addr) (a0_2n a0_2c : Nat) (a0_3a : Option Addr) (a0_3n a0_3c : Nat) (a0_4a : Option Addr) (a0_4n a0_4c : Nat) (a0_5a : Option Addr) (a0_5n a0_5c : Nat) (w : World) : (Instr.buildSlice 23 1 #[(0, (Value.agg #[(Value.int .i64 a8B), (Value.string a8C), (Value.slice a0_2a a0_2n a0_2c), (Value.slice a0_3a a0_3n a0_3c), (Value.slice a0_4a a0_4n a0_4c), (Value.slice a0_5a a0_5n a0_5c)]))]).run Tryz.prog w = .ok (.slice (some ⟨w.heap.size, 0, none⟩) 1 1) (w.alloc (.cells [(Value.int .i64 a8B), (Value.string a8C), (Value.slice a0_2a a0_2n a0_2c), (Value.slice a0_3a a0_3n a0_3c), (Value.slice a0_4a a0_4n a0_4c), (Value.slice a0_5a a0_5n a0_5c)].toArray 73)) := by kernel_rfl
theorem h5K : Tryz.prog.info? 73 = some ((Tryz.prog.info? 73).getD default) := by kernel_rfl
theorem c8f {E : Pan} {w0 w : World} {ps : Nat → Prop} {H0 H : Hp} {Fs : List Frag} {K : Value → World → Prop} {s : Sl} {xs : List d8} {F : Frag} {t2 : Sl} {ys : List d8} {ks : List Bool} {ty : TypeId} (I : Inv w0 ps H0 H (F :: Fs) w) (hr : RowL 73 6 g8 s xs F) (hs : SrcO w g8 t2 ys) (hb : (xs.length + ys.length) * 121 ≤ 140737488355328) (h : ∀ (s' : Sl) (F' : Frag) (w' : World), RowL 73 6 g8 s' (xs ++ ys) F' → Inv w0 ps H0 H (F' :: Fs) w' → (∀ k, k < w.heap.size → (∀ p ∈ F, p.1 ≠ k) → w'.heap[k]? = w.heap[k]?) → K (.slice s'.a s'.n s'.c) w') : opK Tryz.prog E (xBuiltin .append #[23, 23] ty ks [.slice s.a s.n s.c, .slice t2.a t2.n t2.c]) w K :=
  c9T (bytes := 120) Tryz.underlying23 h5K (z := (Value.agg #[(Value.int .i64 0), (Value.string ⟨#[]⟩), (Value.slice none 0 0), (Value.slice none 0 0), (Value.slice none 0 0), (Value.slice none 0 0)])) (by kernel_rfl) (by kernel_rfl) (by kernel_rfl) (by kernel_rfl) I hr hs hb h
theorem b6O {a : Option Addr} {g o : Nat} (ha : a = some ⟨g, o, none⟩) (len cap : Nat) (k : IntKind) (i : Int) (h0 : 0 ≤ i) (h1 : i < len) : Pu Tryz.prog (xV (Instr.indexAt 22 (.slice a len cap) (.int k i))) (.pointer (some ⟨g, o + i.toNat * 2, none⟩)) := b0Z Tryz.underlying22 Tryz.sizeOf71 ha len cap k i h0 h1
theorem h5L (d : Nat) (a0 b0 : ByteArray) (a1 b1 : Int) (w : World) : (Op.equalIn (d + 2) 71 (.agg #[(Value.string a0), (Value.int .i64 a1)]) (.agg #[(Value.string b0), (Value.int .i64 b1)])).run Tryz.prog w = .ok (decide (a0 = b0 ∧ a1 = b1)) w := by
  have u9 := Tryz.underlying9
  have i9 := Tryz.isAgg9
  have s9 := Tryz.sizeOf9
  have u3 := Tryz.underlying3
  have i3 := Tryz.isAgg3
  have s3 := Tryz.sizeOf3
  have hS : Tryz.prog.underlying 71 = some (.struct (Tryz.prog.fieldsOf 71)) := by kernel_rfl
  rw [run_equalIn_agg w (d + 1) 71 _ _ hS (by kernel_rfl)]
  simp only [Program.fieldsOf, Tryz.underlying71]
  go_simp
  try simp only [d1R]
  by_cases h0 : a0 = b0
  · by_cases h1 : a1 = b1
    · simp [h0, h1]
    · simp [h0, h1]
  · simp [h0]
theorem f8C (x y : Operand) (a0 b0 : ByteArray) (a1 b1 : Int) : Pu Tryz.prog (xBin .neq 71 x y (.agg #[(Value.string a0), (Value.int .i64 a1)]) (.agg #[(Value.string b0), (Value.int .i64 b1)])) (.bool (!decide (a0 = b0 ∧ a1 = b1))) := by
  refine Pu.ok (s := do eqGuard .neq 71 x y (.agg #[(Value.string a0), (Value.int .i64 a1)]) (.agg #[(Value.string b0), (Value.int .i64 b1)]); binOp .neq 71 (.agg #[(Value.string a0), (Value.int .i64 a1)]) (.agg #[(Value.string b0), (Value.int .i64 b1)])) fun w => ?_
  rw [Sem.run_bind, run_eqGuard_agg w _ _ _ _ _ _ (by kernel_rfl), Result.andThen_ok, run_neq_struct, show (10000 : Nat) = 9998 + 2 from rfl, h5L]
  rfl
theorem f5u  : Pu Tryz.prog (xV (Instr.build 53 #[])) (.agg #[(Value.int .i64 0), (Value.int .i64 0), (Value.string ⟨#[]⟩), (Value.slice none 0 0)]) := Pu.ok fun w => by kernel_rfl
theorem b1R (a0 : Int) (a1 : Int) : Pu Tryz.prog (xV (Instr.build 53 #[(0, (Value.int .i64 a0)), (1, (Value.int .i64 a1))])) (.agg #[(Value.int .i64 a0), (Value.int .i64 a1), (Value.string ⟨#[]⟩), (Value.slice none 0 0)]) := Pu.ok fun w => by kernel_rfl
theorem f5v  : Pu Tryz.prog (xV (Instr.build 59 #[])) (.agg #[(Value.int .i64 0), (Value.int .i64 0), (Value.slice none 0 0), (Value.slice none 0 0)]) := Pu.ok fun w => by kernel_rfl
theorem a9S {g o : Nat} : Pu Tryz.prog (xV (Instr.fieldAt 101 (.pointer (some ⟨g, o, none⟩)) 2)) (.pointer (some ⟨g, o + 2, none⟩)) := Pu.ok fun w => by kernel_rfl
theorem a0b {g o : Nat} : Pu Tryz.prog (xV (Instr.fieldAt 108 (.pointer (some ⟨g, o, none⟩)) 2)) (.pointer (some ⟨g, o + 2, none⟩)) := Pu.ok fun w => by kernel_rfl
theorem d6m (a0 : Bool) (a1 : Bool) : Pu Tryz.prog (xV (Instr.build 111 #[(0, (Value.bool a0)), (1, (Value.bool a1))])) (.agg #[(Value.bool a0), (Value.bool a1)]) := Pu.ok fun w => by kernel_rfl
theorem L6 {g o : Nat} : Pu Tryz.prog (xV (Instr.fieldAt 111 (.pointer (some ⟨g, o, none⟩)) 0)) (.pointer (some ⟨g, o + 0, none⟩)) := Pu.ok fun w => by kernel_rfl
theorem b9m {g o : Nat} : Pu Tryz.prog (xV (Instr.fieldAt 71 (.pointer (some ⟨g, o, none⟩)) 1)) (.pointer (some ⟨g, o + 1, none⟩)) := Pu.ok fun w => by kernel_rfl
theorem d3D {g o : Nat} : Pu Tryz.prog (xV (Instr.fieldAt 71 (.pointer (some ⟨g, o, none⟩)) 0)) (.pointer (some ⟨g, o + 0, none⟩)) := Pu.ok fun w => by kernel_rfl
theorem c3p {g o : Nat} : Pu Tryz.prog (xV (Instr.fieldAt 111 (.pointer (some ⟨g, o, none⟩)) 1)) (.pointer (some ⟨g, o + 1, none⟩)) := Pu.ok fun w => by kernel_rfl
theorem a4N {g o : Nat} : Pu Tryz.prog (xV (Instr.fieldAt 59 (.pointer (some ⟨g, o, none⟩)) 1)) (.pointer (some ⟨g, o + 1, none⟩)) := Pu.ok fun w => by kernel_rfl
theorem M4 {g o : Nat} : Pu Tryz.prog (xV (Instr.fieldAt 59 (.pointer (some ⟨g, o, none⟩)) 2)) (.pointer (some ⟨g, o + 2, none⟩)) := Pu.ok fun w => by kernel_rfl
theorem E5 {g o : Nat} : Pu Tryz.prog (xV (Instr.fieldAt 59 (.pointer (some ⟨g, o, none⟩)) 3)) (.pointer (some ⟨g, o + 3, none⟩)) := Pu.ok fun w => by kernel_rfl
theorem b3e {g o : Nat} : Pu Tryz.prog (xV (Instr.fieldAt 53 (.pointer (some ⟨g, o, none⟩)) 2)) (.pointer (some ⟨g, o + 2, none⟩)) := Pu.ok fun w => by kernel_rfl
theorem d9Y {a0 a1 a2 : Value} : Pu Tryz.prog (xV (Instr.field 108 (.agg #[a0, a1, a2]) 2)) a2 := Pu.ok fun w => by kernel_rfl
theorem b3D (a0 : Int) (a1 : ByteArray) (a4a : Option Addr) (a4n a4c : Nat) (a5a : Option Addr) (a5n a5c : Nat) : Pu Tryz.prog (xV (Instr.build 73 #[(0, (Value.int .i64 a0)), (1, (Value.string a1)), (4, (Value.slice a4a a4n a4c)), (5, (Value.slice a5a a5n a5c))])) (.agg #[(Value.int .i64 a0), (Value.string a1), (Value.slice none 0 0), (Value.slice none 0 0), (Value.slice a4a a4n a4c), (Value.slice a5a a5n a5c)]) := Pu.ok fun w => by kernel_rfl
theorem f8D (x y : Operand) (a b : Bool) : Pu Tryz.prog (xBin .eql 4 x y (.bool a) (.bool b)) (.bool (a == b)) := h5x _ _ _ a b Tryz.underlying4
theorem c5u (x y : Operand) (a b : Bool) : Pu Tryz.prog (xBin .neq 4 x y (.bool a) (.bool b)) (.bool (a != b)) := h5y _ _ _ a b Tryz.underlying4
abbrev N2 (x : ByteArray) : List Value := [(Value.string x)]
theorem d1F (x : ByteArray) : (N2 x).length = 1 := rfl
theorem d1G (x : ByteArray) : (N2 x).all (·.oneCell') = true := rfl
theorem g6S (a0 : ByteArray) (w : World) : (Instr.buildSlice 88 1 #[(0, (Value.string a0))]).run Tryz.prog w = .ok (.slice (some ⟨w.heap.size, 0, none⟩) 1 1) (w.alloc (.cells [(Value.string a0)].toArray 9)) := by kernel_rfl
theorem j3X : Tryz.prog.info? 9 = some ((Tryz.prog.info? 9).getD default) := by kernel_rfl
theorem h5M {E : Pan} {w0 w : World} {ps : Nat → Prop} {H0 H : Hp} {Fs : List Frag} {K : Value → World → Prop} {s : Sl} {xs : List ByteArray} {F : Frag} {t2 : Sl} {ys : List ByteArray} {ks : List Bool} {ty : TypeId} (I : Inv w0 ps H0 H (F :: Fs) w) (hr : RowL 9 1 N2 s xs F) (hs : SrcO w N2 t2 ys) (hb : (xs.length + ys.length) * 17 ≤ 140737488355328) (h : ∀ (s' : Sl) (F' : Frag) (w' : World), RowL 9 1 N2 s' (xs ++ ys) F' → Inv w0 ps H0 H (F' :: Fs) w' → (∀ k, k < w.heap.size → (∀ p ∈ F, p.1 ≠ k) → w'.heap[k]? = w.heap[k]?) → K (.slice s'.a s'.n s'.c) w') : opK Tryz.prog E (xBuiltin .append #[88, 88] ty ks [.slice s.a s.n s.c, .slice t2.a t2.n t2.c]) w K :=
  c9T (bytes := 16) Tryz.underlying88 j3X (z := (Value.string ⟨#[]⟩)) (by kernel_rfl) (by kernel_rfl) (by kernel_rfl) (by kernel_rfl) I hr hs hb h
theorem c8g (a8B : Int) (a8C : Int) (c8c : ByteArray) (a0_3a : Option Addr) (a0_3n a0_3c : Nat) : Pu Tryz.prog (xV (Instr.build 136 #[(0, (Value.agg #[(Value.int .i64 a8B), (Value.int .i64 a8C), (Value.string c8c), (Value.slice a0_3a a0_3n a0_3c)]))])) (.agg #[(Value.int .i64 a8B), (Value.int .i64 a8C), (Value.string c8c), (Value.slice a0_3a a0_3n a0_3c)]) := Pu.ok fun w => by kernel_rfl
theorem b6P (x : M2) : Pu Tryz.prog (xV (Instr.makeInterface 136 (.agg #[(Value.int .i64 x.u2.b6), (Value.int .i64 x.u2.m8), (Value.string x.u2.g7), (Value.slice x.u2.i4.a x.u2.i4.n x.u2.i4.c)]))) (E7 (i5.J8 x)) := Pu.ok fun w => rfl
abbrev w8 (x : i5) : List Value := [(E7 x)]
theorem T6 (x : i5) : (w8 x).length = 1 := rfl
theorem V6 (x : i5) : (w8 x).all (·.oneCell') = true := d8o x
theorem b6Q (a0 : i5) (w : World) : (Instr.buildSlice 137 1 #[(0, (E7 a0))]).run Tryz.prog w = .ok (.slice (some ⟨w.heap.size, 0, none⟩) 1 1) (w.alloc (.cells [(E7 a0)].toArray 150)) := by cases a0 <;> kernel_rfl
theorem c8h (a8B : Int) (a8C : Int) (a0_2a : Option Addr) (a0_2n a0_2c : Nat) (a0_3a : Option Addr) (a0_3n a0_3c : Nat) : Pu Tryz.prog (xV (Instr.build 143 #[(0, (Value.agg #[(Value.int .i64 a8B), (Value.int .i64 a8C), (Value.slice a0_2a a0_2n a0_2c), (Value.slice a0_3a a0_3n a0_3c)]))])) (.agg #[(Value.int .i64 a8B), (Value.int .i64 a8C), (Value.slice a0_2a a0_2n a0_2c), (Value.slice a0_3a a0_3n a0_3c)]) := Pu.ok fun w => by kernel_rfl
theorem c4n (x : R7) : Pu Tryz.prog (xV (Instr.makeInterface 143 (.agg #[(Value.int .i64 x.t1.b6), (Value.int .i64 x.t1.fOp), (Value.slice x.t1.i6.a x.t1.i6.n x.t1.i6.c), (Value.slice x.t1.p8.a x.t1.p8.n x.t1.p8.c)]))) (E7 (i5.Q1 x)) := Pu.ok fun w => rfl
theorem d9Z (a0a : Option Addr) (a0n a0c : Nat) (a1a : Option Addr) (a1n a1c : Nat) (w : World) : (Instr.buildSlice 179 2 #[(0, (Value.slice a0a a0n a0c)), (1, (Value.slice a1a a1n a1c))]).run Tryz.prog w = .ok (.slice (some ⟨w.heap.size, 0, none⟩) 2 2) (w.alloc (.cells [(Value.slice a0a a0n a0c), (Value.slice a1a a1n a1c)].toArray 137)) := by kernel_rfl
theorem e6a (x y : Operand) (s : Sl) : Pu Tryz.prog (xBin .eql 22 x y (vs s) (.slice none 0 0)) (.bool s.a.isNone) := f5r _ _ _ s Tryz.underlying22
theorem g6T  (w : World) : (Instr.buildSlice 22 0 #[]).run Tryz.prog w = .ok (.slice (some ⟨w.heap.size, 0, none⟩) 0 0) (w.alloc (.cells [].toArray 71)) := by kernel_rfl
theorem e7Y  : Pu Tryz.prog (xV (Instr.build 108 #[])) (.agg #[(Value.int .i64 0), (Value.int .i64 0), (Value.int .i64 0)]) := Pu.ok fun w => by kernel_rfl
theorem c3q {g o : Nat} : Pu Tryz.prog (xV (Instr.fieldAt 108 (.pointer (some ⟨g, o, none⟩)) 0)) (.pointer (some ⟨g, o + 0, none⟩)) := Pu.ok fun w => by kernel_rfl
theorem d1H {g o : Nat} : Pu Tryz.prog (xV (Instr.fieldAt 108 (.pointer (some ⟨g, o, none⟩)) 1)) (.pointer (some ⟨g, o + 1, none⟩)) := Pu.ok fun w => by kernel_rfl
theorem d8q (a0 : Int) (a1 : Int) : Pu Tryz.prog (xV (Instr.build 59 #[(0, (Value.int .i64 a0)), (1, (Value.int .i64 a1))])) (.agg #[(Value.int .i64 a0), (Value.int .i64 a1), (Value.slice none 0 0), (Value.slice none 0 0)]) := Pu.ok fun w => by kernel_rfl
theorem d3E (a0 : Int) (a1 : Int) (a2 : ByteArray) : Pu Tryz.prog (xV (Instr.build 53 #[(0, (Value.int .i64 a0)), (1, (Value.int .i64 a1)), (2, (Value.string a2))])) (.agg #[(Value.int .i64 a0), (Value.int .i64 a1), (Value.string a2), (Value.slice none 0 0)]) := Pu.ok fun w => by kernel_rfl
theorem e7Z  : Pu Tryz.prog (xV (Instr.build 101 #[])) (.agg #[(Value.int .i64 0), (Value.int .i64 0), (Value.int .i64 0), (Value.bool false), (Value.bool false), (Value.slice none 0 0)]) := Pu.ok fun w => by kernel_rfl
theorem b9n (a : Option Addr) (n c : Nat) : Pu Tryz.prog (xBuiltin .len #[137] 3 [false] [.slice a n c]) (.int .i64 (n : Int)) := a8A Tryz.underlying137 a n c
theorem f5w {a : Option Addr} {g o : Nat} (ha : a = some ⟨g, o, none⟩) (len cap : Nat) (k : IntKind) (i : Int) (h0 : 0 ≤ i) (h1 : i < len) : Pu Tryz.prog (xV (Instr.indexAt 137 (.slice a len cap) (.int k i))) (.pointer (some ⟨g, o + i.toNat * 1, none⟩)) := b0Z Tryz.underlying137 Tryz.sizeOf150 ha len cap k i h0 h1
theorem c3r {g o : Nat} : Pu Tryz.prog (xV (Instr.fieldAt 101 (.pointer (some ⟨g, o, none⟩)) 0)) (.pointer (some ⟨g, o + 0, none⟩)) := Pu.ok fun w => by kernel_rfl
theorem d1I {g o : Nat} : Pu Tryz.prog (xV (Instr.fieldAt 101 (.pointer (some ⟨g, o, none⟩)) 1)) (.pointer (some ⟨g, o + 1, none⟩)) := Pu.ok fun w => by kernel_rfl
theorem c3s {g o : Nat} : Pu Tryz.prog (xV (Instr.fieldAt 101 (.pointer (some ⟨g, o, none⟩)) 3)) (.pointer (some ⟨g, o + 3, none⟩)) := Pu.ok fun w => by kernel_rfl
theorem c3t {g o : Nat} : Pu Tryz.prog (xV (Instr.fieldAt 101 (.pointer (some ⟨g, o, none⟩)) 4)) (.pointer (some ⟨g, o + 4, none⟩)) := Pu.ok fun w => by kernel_rfl
theorem c3u {g o : Nat} : Pu Tryz.prog (xV (Instr.fieldAt 101 (.pointer (some ⟨g, o, none⟩)) 5)) (.pointer (some ⟨g, o + 5, none⟩)) := Pu.ok fun w => by kernel_rfl
theorem a3G {g o : Nat} (k : IntKind) (i : Int) (h0 : 0 ≤ i) (h1 : i < 2) : Pu Tryz.prog (xV (Instr.indexAt 173 (.pointer (some ⟨g, o, none⟩)) (.int k i))) (.pointer (some ⟨g, o + i.toNat * 1, none⟩)) := e5Z Tryz.underlying173 Tryz.sizeOf2 k i h0 h1
theorem b7N (a0 : Int) : Pu Tryz.prog (xV (Instr.build 59 #[(0, (Value.int .i64 a0))])) (.agg #[(Value.int .i64 a0), (Value.int .i64 0), (Value.slice none 0 0), (Value.slice none 0 0)]) := Pu.ok fun w => by kernel_rfl
theorem b1Y : Pu Tryz.prog (xV (Instr.build 177 #[(0, (Value.func (.func 149) #[] #[])), (1, (Value.func (.func 150) #[] #[])), (2, (Value.func (.func 151) #[] #[])), (3, (Value.func (.func 152) #[] #[])), (4, (Value.func (.func 153) #[] #[])), (5, (Value.func (.func 154) #[] #[])), (6, (Value.func (.func 155) #[] #[]))])) (.agg #[(Value.func (.func 149) #[] #[]), (Value.func (.func 150) #[] #[]), (Value.func (.func 151) #[] #[]), (Value.func (.func 152) #[] #[]), (Value.func (.func 153) #[] #[]), (Value.func (.func 154) #[] #[]), (Value.func (.func 155) #[] #[])]) := Pu.ok fun w => by kernel_rfl
theorem a2H (k : IntKind) (i : Int) (h0 : 0 ≤ i) (h1 : i < 7) : Pu Tryz.prog (xV (Instr.index 177 (.agg #[(Value.func (.func 149) #[] #[]), (Value.func (.func 150) #[] #[]), (Value.func (.func 151) #[] #[]), (Value.func (.func 152) #[] #[]), (Value.func (.func 153) #[] #[]), (Value.func (.func 154) #[] #[]), (Value.func (.func 155) #[] #[])]) (.int k i))) (([(Value.func (.func 149) #[] #[]), (Value.func (.func 150) #[] #[]), (Value.func (.func 151) #[] #[]), (Value.func (.func 152) #[] #[]), (Value.func (.func 153) #[] #[]), (Value.func (.func 154) #[] #[]), (Value.func (.func 155) #[] #[])] : List Value).getD i.toNat undef) := by
  obtain rfl | rfl | rfl | rfl | rfl | rfl | rfl := (by omega : i = 0 ∨ i = 1 ∨ i = 2 ∨ i = 3 ∨ i = 4 ∨ i = 5 ∨ i = 6)
  · exact Pu.ok fun w => by kernel_rfl
  · exact Pu.ok fun w => by kernel_rfl
  · exact Pu.ok fun w => by kernel_rfl
  · exact Pu.ok fun w => by kernel_rfl
  · exact Pu.ok fun w => by kernel_rfl
  · exact Pu.ok fun w => by kernel_rfl
  · exact Pu.ok fun w => by kernel_rfl
theorem d3F (a : Option Addr) (n c : Nat) : Pu Tryz.prog (xBuiltin .len #[179] 3 [false] [.slice a n c]) (.int .i64 (n : Int)) := a8A Tryz.underlying179 a n c
theorem d7R {a : Option Addr} {g o : Nat} (ha : a = some ⟨g, o, none⟩) (len cap : Nat) (k : IntKind) (i : Int) (h0 : 0 ≤ i) (h1 : i < len) : Pu Tryz.prog (xV (Instr.indexAt 179 (.slice a len cap) (.int k i))) (.pointer (some ⟨g, o + i.toNat * 1, none⟩)) := b0Z Tryz.underlying179 Tryz.sizeOf137 ha len cap k i h0 h1
theorem f5x (s : ByteArray) : Pu Tryz.prog (xV (Instr.makeInterface 9 (.string s))) (.iface 9 (.string s)) := Pu.ok fun w => by kernel_rfl
theorem e6q : Tryz.prog.info? 150 = some ((Tryz.prog.info? 150).getD default) := by kernel_rfl
theorem c4o {E : Pan} {w0 w : World} {ps : Nat → Prop} {H0 H : Hp} {Fs : List Frag} {K : Value → World → Prop} {s : Sl} {xs : List i5} {F : Frag} {t2 : Sl} {ys : List i5} {ks : List Bool} {ty : TypeId} (I : Inv w0 ps H0 H (F :: Fs) w) (hr : RowL 150 1 w8 s xs F) (hs : SrcO w w8 t2 ys) (hb : (xs.length + ys.length) * 17 ≤ 140737488355328) (h : ∀ (s' : Sl) (F' : Frag) (w' : World), RowL 150 1 w8 s' (xs ++ ys) F' → Inv w0 ps H0 H (F' :: Fs) w' → (∀ k, k < w.heap.size → (∀ p ∈ F, p.1 ≠ k) → w'.heap[k]? = w.heap[k]?) → K (.slice s'.a s'.n s'.c) w') : opK Tryz.prog E (xBuiltin .append #[137, 137] ty ks [.slice s.a s.n s.c, .slice t2.a t2.n t2.c]) w K :=
  c9T (bytes := 16) Tryz.underlying137 e6q (z := Value.nilIface) (by kernel_rfl) (by kernel_rfl) (by kernel_rfl) (by kernel_rfl) I hr hs hb h
theorem e0a (a8B : ByteArray) (a8C : Int) : Pu Tryz.prog (xV (Instr.build 182 #[(0, (Value.agg #[(Value.string a8B), (Value.int .i64 a8C)]))])) (.agg #[(Value.string a8B), (Value.int .i64 a8C)]) := Pu.ok fun w => by kernel_rfl
theorem d6n (x : a0k) : Pu Tryz.prog (xV (Instr.makeInterface 182 (.agg #[(Value.string x.a0l.g7), (Value.int .i64 x.a0l.a1F)]))) (E7 (i5.S6 x)) := Pu.ok fun w => rfl
theorem e0b (a8B : Int) (a8C : ByteArray) (a0_2a : Option Addr) (a0_2n a0_2c : Nat) (a0_3a : Option Addr) (a0_3n a0_3c : Nat) (a0_4a : Option Addr) (a0_4n a0_4c : Nat) (a0_5a : Option Addr) (a0_5n a0_5c : Nat) : Pu Tryz.prog (xV (Instr.build 184 #[(0, (Value.agg #[(Value.int .i64 a8B), (Value.string a8C), (Value.slice a0_2a a0_2n a0_2c), (Value.slice a0_3a a0_3n a0_3c), (Value.slice a0_4a a0_4n a0_4c), (Value.slice a0_5a a0_5n a0_5c)]))])) (.agg #[(Value.int .i64 a8B), (Value.string a8C), (Value.slice a0_2a a0_2n a0_2c), (Value.slice a0_3a a0_3n a0_3c), (Value.slice a0_4a a0_4n a0_4c), (Value.slice a0_5a a0_5n a0_5c)]) := Pu.ok fun w => by kernel_rfl
theorem d6o (x : W3) : Pu Tryz.prog (xV (Instr.makeInterface 184 (.agg #[(Value.int .i64 x.k9.b6), (Value.string x.k9.g7), (Value.slice x.k9.i6.a x.k9.i6.n x.k9.i6.c), (Value.slice x.k9.m9.a x.k9.m9.n x.k9.m9.c), (Value.slice x.k9.v7.a x.k9.v7.n x.k9.v7.c), (Value.slice x.k9.t7.a x.k9.t7.n x.k9.t7.c)]))) (E7 (i5.O3 x)) := Pu.ok fun w => rfl
theorem c5v (s : ByteArray) : Pu Tryz.prog (xBuiltin .len #[9] 3 [false] [.string s]) (.int .i64 (s.size : Int)) := e7R _ _ s Tryz.underlying9
theorem c4p (s : ByteArray) (k : IntKind) (i : Int) (h0 : 0 ≤ i) (h1 : i < s.size) : Pu Tryz.prog (xV (Instr.index 9 (.string s) (.int k i))) (.int .u8 ((s.get! i.toNat).toNat : Int)) := d9S _ s k i Tryz.underlying9 h0 h1
theorem c8i (k : IntKind) (n : Int) : Pu Tryz.prog (xV (convert 5 3 (.int k n))) (.int .i64 (IntKind.wrap .i64 n)) := Pu.ok fun w => run_convert_int (P := Tryz.prog) (w := w) 5 3 k n (by rw [Tryz.underlying5]; rfl) Tryz.underlying3
theorem d8r (x : i5) : Pu Tryz.prog (xV (Instr.typeAssert (E7 x) 150 182 true)) (.tuple #[(Value.agg #[(Value.string ((((x.a2I)).a0l).g7)), (Value.int .i64 ((((x.a2I)).a0l).a1F))]), .bool (x.b3c)]) := by
  cases x <;> exact Pu.ok fun w => by kernel_rfl
theorem c3v {g o : Nat} : Pu Tryz.prog (xV (Instr.fieldAt 182 (.pointer (some ⟨g, o, none⟩)) 0)) (.pointer (some ⟨g, o + 0, none⟩)) := Pu.ok fun w => by kernel_rfl
theorem d8s (x : i5) : Pu Tryz.prog (xV (Instr.typeAssert (E7 x) 150 184 true)) (.tuple #[(Value.agg #[(Value.int .i64 ((((x.p7)).k9).b6)), (Value.string ((((x.p7)).k9).g7)), (Value.slice ((((x.p7)).k9).i6).a ((((x.p7)).k9).i6).n ((((x.p7)).k9).i6).c), (Value.slice ((((x.p7)).k9).m9).a ((((x.p7)).k9).m9).n ((((x.p7)).k9).m9).c), (Value.slice ((((x.p7)).k9).v7).a ((((x.p7)).k9).v7).n ((((x.p7)).k9).v7).c), (Value.slice ((((x.p7)).k9).t7).a ((((x.p7)).k9).t7).n ((((x.p7)).k9).t7).c)]), .bool (x.b3d)]) := by
  cases x <;> exact Pu.ok fun w => by kernel_rfl
theorem V1 {g o : Nat} : Pu Tryz.prog (xV (Instr.fieldAt 184 (.pointer (some ⟨g, o, none⟩)) 0)) (.pointer (some ⟨g, o + 0, none⟩)) := Pu.ok fun w => by kernel_rfl
theorem d8t (x : i5) : Pu Tryz.prog (xV (Instr.typeAssert (E7 x) 150 136 true)) (.tuple #[(Value.agg #[(Value.int .i64 ((((x.A9)).u2).b6)), (Value.int .i64 ((((x.A9)).u2).m8)), (Value.string ((((x.A9)).u2).g7)), (Value.slice ((((x.A9)).u2).i4).a ((((x.A9)).u2).i4).n ((((x.A9)).u2).i4).c)]), .bool (x.b3b)]) := by
  cases x <;> exact Pu.ok fun w => by kernel_rfl
theorem a4K {g o : Nat} : Pu Tryz.prog (xV (Instr.fieldAt 136 (.pointer (some ⟨g, o, none⟩)) 0)) (.pointer (some ⟨g, o + 0, none⟩)) := Pu.ok fun w => by kernel_rfl
theorem d1J (k : IntKind) (n : Int) : Pu Tryz.prog (xV (convert 2 200 (.int k n))) (.int .u64 (IntKind.wrap .u64 n)) := Pu.ok fun w => run_convert_int (P := Tryz.prog) (w := w) 2 200 k n (by rw [Tryz.underlying2]; rfl) Tryz.underlying200
theorem f8E {a : Option Addr} {g o : Nat} (ha : a = some ⟨g, o, none⟩) (len cap : Nat) (k : IntKind) (i : Int) (h0 : 0 ≤ i) (h1 : i < len) : Pu Tryz.prog (xV (Instr.indexAt 88 (.slice a len cap) (.int k i))) (.pointer (some ⟨g, o + i.toNat * 1, none⟩)) := b0Z Tryz.underlying88 Tryz.sizeOf9 ha len cap k i h0 h1
theorem a6I {g o : Nat} : Pu Tryz.prog (xV (Instr.fieldAt 143 (.pointer (some ⟨g, o, none⟩)) 0)) (.pointer (some ⟨g, o + 0, none⟩)) := Pu.ok fun w => by kernel_rfl
theorem b3f (a0 : Int) (a1 : Int) : Pu Tryz.prog (xV (Instr.build 236 #[(0, (Value.int .i64 a0)), (1, (Value.int .i64 a1))])) (.agg #[(Value.int .i64 a0), (Value.int .i64 a1)]) := Pu.ok fun w => by kernel_rfl
theorem g6U (d : Nat) (a0 b0 : Int) (a1 b1 : Int) (w : World) : (Op.equalIn (d + 2) 236 (.agg #[(Value.int .i64 a0), (Value.int .i64 a1)]) (.agg #[(Value.int .i64 b0), (Value.int .i64 b1)])).run Tryz.prog w = .ok (decide (a0 = b0 ∧ a1 = b1)) w := by
  have u3 := Tryz.underlying3
  have i3 := Tryz.isAgg3
  have s3 := Tryz.sizeOf3
  have hS : Tryz.prog.underlying 236 = some (.struct (Tryz.prog.fieldsOf 236)) := by kernel_rfl
  rw [run_equalIn_agg w (d + 1) 236 _ _ hS (by kernel_rfl)]
  simp only [Program.fieldsOf, Tryz.underlying236]
  go_simp
  try simp only [d1R]
  by_cases h0 : a0 = b0
  · by_cases h1 : a1 = b1
    · simp [h0, h1]
    · simp [h0, h1]
  · simp [h0]
theorem c2K (x y : Operand) (a0 b0 : Int) (a1 b1 : Int) : Pu Tryz.prog (xBin .eql 236 x y (.agg #[(Value.int .i64 a0), (Value.int .i64 a1)]) (.agg #[(Value.int .i64 b0), (Value.int .i64 b1)])) (.bool (decide (a0 = b0 ∧ a1 = b1))) := by
  refine Pu.ok (s := do eqGuard .eql 236 x y (.agg #[(Value.int .i64 a0), (Value.int .i64 a1)]) (.agg #[(Value.int .i64 b0), (Value.int .i64 b1)]); binOp .eql 236 (.agg #[(Value.int .i64 a0), (Value.int .i64 a1)]) (.agg #[(Value.int .i64 b0), (Value.int .i64 b1)])) fun w => ?_
  rw [Sem.run_bind, run_eqGuard_agg w _ _ _ _ _ _ (by kernel_rfl), Result.andThen_ok, run_eql_struct, show (10000 : Nat) = 9998 + 2 from rfl, g6U]
  rfl
theorem e8a  : Pu Tryz.prog (xV (Instr.build 236 #[])) (.agg #[(Value.int .i64 0), (Value.int .i64 0)]) := Pu.ok fun w => by kernel_rfl
theorem a8x (a0 : Int) (a1 : Int) : Pu Tryz.prog (xV (Instr.build 240 #[(0, (Value.int .i64 a0)), (1, (Value.int .i64 a1))])) (.agg #[(Value.int .i64 a0), (Value.int .i64 a1)]) := Pu.ok fun w => by kernel_rfl
theorem g6V (d : Nat) (a0 b0 : Int) (a1 b1 : Int) (w : World) : (Op.equalIn (d + 2) 240 (.agg #[(Value.int .i64 a0), (Value.int .i64 a1)]) (.agg #[(Value.int .i64 b0), (Value.int .i64 b1)])).run Tryz.prog w = .ok (decide (a0 = b0 ∧ a1 = b1)) w := by
  have u3 := Tryz.underlying3
  have i3 := Tryz.isAgg3
  have s3 := Tryz.sizeOf3
  have hS : Tryz.prog.underlying 240 = some (.struct (Tryz.prog.fieldsOf 240)) := by kernel_rfl
  rw [run_equalIn_agg w (d + 1) 240 _ _ hS (by kernel_rfl)]
  simp only [Program.fieldsOf, Tryz.underlying240]
  go_simp
  try simp only [d1R]
  by_cases h0 : a0 = b0
  · by_cases h1 : a1 = b1
    · simp [h0, h1]
    · simp [h0, h1]
  · simp [h0]
theorem b4Y (x y : Operand) (a0 b0 : Int) (a1 b1 : Int) : Pu Tryz.prog (xBin .eql 240 x y (.agg #[(Value.int .i64 a0), (Value.int .i64 a1)]) (.agg #[(Value.int .i64 b0), (Value.int .i64 b1)])) (.bool (decide (a0 = b0 ∧ a1 = b1))) := by
  refine Pu.ok (s := do eqGuard .eql 240 x y (.agg #[(Value.int .i64 a0), (Value.int .i64 a1)]) (.agg #[(Value.int .i64 b0), (Value.int .i64 b1)]); binOp .eql 240 (.agg #[(Value.int .i64 a0), (Value.int .i64 a1)]) (.agg #[(Value.int .i64 b0), (Value.int .i64 b1)])) fun w => ?_
  rw [Sem.run_bind, run_eqGuard_agg w _ _ _ _ _ _ (by kernel_rfl), Result.andThen_ok, run_eql_struct, show (10000 : Nat) = 9998 + 2 from rfl, g6V]
  rfl
theorem e8b  : Pu Tryz.prog (xV (Instr.build 240 #[])) (.agg #[(Value.int .i64 0), (Value.int .i64 0)]) := Pu.ok fun w => by kernel_rfl
theorem f8F (a0a : Option Addr) (a0n a0c : Nat) (a1a : Option Addr) (a1n a1c : Nat) (a2a : Option Addr) (a2n a2c : Nat) (a3a : Option Addr) (a3n a3c : Nat) (w : World) : (Instr.buildSlice 179 4 #[(0, (Value.slice a0a a0n a0c)), (1, (Value.slice a1a a1n a1c)), (2, (Value.slice a2a a2n a2c)), (3, (Value.slice a3a a3n a3c))]).run Tryz.prog w = .ok (.slice (some ⟨w.heap.size, 0, none⟩) 4 4) (w.alloc (.cells [(Value.slice a0a a0n a0c), (Value.slice a1a a1n a1c), (Value.slice a2a a2n a2c), (Value.slice a3a a3n a3c)].toArray 137)) := by kernel_rfl
abbrev k4 (x : m5) : List Value := [(Value.slice x.z8.a x.z8.n x.z8.c), (Value.slice x.V3.a x.V3.n x.V3.c)]
abbrev b3g (x : o5) : List Value := [(Value.int .i64 x.fnodes), (Value.int .i64 x.fdepth), (Value.int .i64 x.fe), (Value.bool x.fform), (Value.bool x.fnamed), (Value.slice x.fnames.a x.fnames.n x.fnames.c)]
abbrev k8 (x : d9) : List Value := [(Value.int .i64 x.fn), (Value.int .i64 x.fdepth), (Value.int .i64 x.fbad)]
abbrev l8 (x : d7) : List Value := [(Value.bool x.fok), (Value.bool x.fnames)]
end Go.Proofs.YtnhkdkcgdcgmdaaGreatDoor
