/- Single operations at this program's types, and its structures; printed by lift.py. -/
import Derived.Test.YtnhkdkcgdcgmdaaGreatDoorProg
import Derived.Test.YtnhkdkcgdcgmdaaGreatDoorzUS5
import Derived.KernelRfl
import Derived.Laws.StructEq
import Derived.Laws.Tables
import Derived.Laws.Cover2
namespace Go.Proofs.YtnhkdkcgdcgmdaaGreatDoor
open Go.RowKit
set_option maxRecDepth 100000
set_option maxHeartbeats 2000000
structure g7 where
  r5 : Sl
  G3 : Sl
structure a8 where
  b6 : Int
  o6 : Int
  f6 : ByteArray
  k9 : Sl
structure b7 where
  b6 : Int
  fOp : Int
  f5 : Sl
  o3 : Sl
structure g9 where
  fn : Int
  fleft : Int
structure E0 where
  f6 : ByteArray
  a1Z : Int
structure d6 where
  b6 : Int
  f6 : ByteArray
  f5 : Sl
  i4 : Sl
  A5 : Sl
  z6 : Sl
structure m7 where
  fnodes : Int
  fdepth : Int
  fe : Int
  fform : Bool
  fnamed : Bool
  fnames : Sl
structure d5 where
  fn : Int
  fdepth : Int
  fbad : Int
structure b9 where
  fok : Bool
  fnames : Bool
structure f7O where
  f6 : ByteArray
  j6f : Bool
structure O3 where
  t7 : a8
structure R6 where
  r8 : b7
structure a0D where
  a0E : E0
structure W7 where
  j8 : d6
structure a7M where
  f0 : Int
  f1 : Int
structure Q1 where
  fexprs : Int
  fparts : Int
structure X5 where
  fexprs : Int
  fconds : Int
inductive g8 where
  | nil
  | M0 (x : O3)
  | R2 (x : R6)
  | S2 (x : a0D)
  | P5 (x : W7)
def E8 : g8 → Value
  | .nil => .nilIface
  | .M0 x => .iface 136 (.agg #[(Value.int .i64 x.t7.b6), (Value.int .i64 x.t7.o6), (Value.string x.t7.f6), (Value.slice x.t7.k9.a x.t7.k9.n x.t7.k9.c)])
  | .R2 x => .iface 143 (.agg #[(Value.int .i64 x.r8.b6), (Value.int .i64 x.r8.fOp), (Value.slice x.r8.f5.a x.r8.f5.n x.r8.f5.c), (Value.slice x.r8.o3.a x.r8.o3.n x.r8.o3.c)])
  | .S2 x => .iface 182 (.agg #[(Value.string x.a0E.f6), (Value.int .i64 x.a0E.a1Z)])
  | .P5 x => .iface 184 (.agg #[(Value.int .i64 x.j8.b6), (Value.string x.j8.f6), (Value.slice x.j8.f5.a x.j8.f5.n x.j8.f5.c), (Value.slice x.j8.i4.a x.j8.i4.n x.j8.i4.c), (Value.slice x.j8.A5.a x.j8.A5.n x.j8.A5.c), (Value.slice x.j8.z6.a x.j8.z6.n x.j8.z6.c)])
theorem d4y (x : g8) : [E8 x].all (·.oneCell') = true := by cases x <;> rfl
def g8.A8 : g8 → O3
  | .M0 x => x
  | _ => (O3.mk (a8.mk 0 0 ⟨#[]⟩ (Sl.mk none 0 0)))
def g8.b1T : g8 → Bool
  | .M0 _ => true
  | _ => false
def g8.a2W : g8 → a0D
  | .S2 x => x
  | _ => (a0D.mk (E0.mk ⟨#[]⟩ 0))
def g8.b1U : g8 → Bool
  | .S2 _ => true
  | _ => false
def g8.o8 : g8 → W7
  | .P5 x => x
  | _ => (W7.mk (d6.mk 0 ⟨#[]⟩ (Sl.mk none 0 0) (Sl.mk none 0 0) (Sl.mk none 0 0) (Sl.mk none 0 0)))
def g8.b1V : g8 → Bool
  | .P5 _ => true
  | _ => false
theorem Z1 {g o : Nat} : Pu Tryz.prog (xV (Instr.fieldAt 25 (.pointer (some ⟨g, o, none⟩)) 0)) (.pointer (some ⟨g, o + 0, none⟩)) := Pu.ok fun w => by kernel_rfl
theorem a9V (a : Option Addr) (n c : Nat) : Pu Tryz.prog (xBuiltin .len #[22] 3 [false] [.slice a n c]) (.int .i64 (n : Int)) := a7R Tryz.underlying22 a n c
theorem a4J {g o : Nat} : Pu Tryz.prog (xV (Instr.fieldAt 25 (.pointer (some ⟨g, o, none⟩)) 1)) (.pointer (some ⟨g, o + 1, none⟩)) := Pu.ok fun w => by kernel_rfl
theorem W8 (a : Option Addr) (n c : Nat) : Pu Tryz.prog (xBuiltin .len #[23] 3 [false] [.slice a n c]) (.int .i64 (n : Int)) := a7R Tryz.underlying23 a n c
abbrev b8 (x : a8) : List Value := [(Value.int .i64 x.b6), (Value.int .i64 x.o6), (Value.string x.f6), (Value.slice x.k9.a x.k9.n x.k9.c)]
theorem T8 (x : a8) : (b8 x).length = 4 := rfl
theorem T9 (x : a8) : (b8 x).all (·.oneCell') = true := rfl
theorem d2M (a7S : Int) (a7T : Int) (c4N : ByteArray) (a0_3a : Option Addr) (a0_3n a0_3c : Nat) (g7l : Int) (g7m : Int) (g7n : ByteArray) (a1_3a : Option Addr) (a1_3n a1_3c : Nat) (w : World) : (Instr.buildSlice 51 2 #[(0, (Value.agg #[(Value.int .i64 a7S), (Value.int .i64 a7T), (Value.string c4N), (Value.slice a0_3a a0_3n a0_3c)])), (1, (Value.agg #[(Value.int .i64 g7l), (Value.int .i64 g7m), (Value.string g7n), (Value.slice a1_3a a1_3n a1_3c)]))]).run Tryz.prog w = .ok (.slice (some ⟨w.heap.size, 0, none⟩) 2 2) (w.alloc (.cells [(Value.int .i64 a7S), (Value.int .i64 a7T), (Value.string c4N), (Value.slice a0_3a a0_3n a0_3c), (Value.int .i64 g7l), (Value.int .i64 g7m), (Value.string g7n), (Value.slice a1_3a a1_3n a1_3c)].toArray 53)) := by kernel_rfl
theorem b6N (a0 : Int) (a3a : Option Addr) (a3n a3c : Nat) : Pu Tryz.prog (xV (Instr.build 53 #[(0, (Value.int .i64 a0)), (3, (Value.slice a3a a3n a3c))])) (.agg #[(Value.int .i64 a0), (Value.int .i64 0), (Value.string ⟨#[]⟩), (Value.slice a3a a3n a3c)]) := Pu.ok fun w => by kernel_rfl
theorem d4z (a0 : Int) (a2 : ByteArray) : Pu Tryz.prog (xV (Instr.build 53 #[(0, (Value.int .i64 a0)), (2, (Value.string a2))])) (.agg #[(Value.int .i64 a0), (Value.int .i64 0), (Value.string a2), (Value.slice none 0 0)]) := Pu.ok fun w => by kernel_rfl
theorem d0o (a0 : Int) (a1 : Int) (a2a : Option Addr) (a2n a2c : Nat) : Pu Tryz.prog (xV (Instr.build 59 #[(0, (Value.int .i64 a0)), (1, (Value.int .i64 a1)), (2, (Value.slice a2a a2n a2c))])) (.agg #[(Value.int .i64 a0), (Value.int .i64 a1), (Value.slice a2a a2n a2c), (Value.slice none 0 0)]) := Pu.ok fun w => by kernel_rfl
theorem U5 {g o : Nat} : Pu Tryz.prog (xV (Instr.fieldAt 53 (.pointer (some ⟨g, o, none⟩)) 0)) (.pointer (some ⟨g, o + 0, none⟩)) := Pu.ok fun w => by kernel_rfl
theorem B2 {g o : Nat} : Pu Tryz.prog (xV (Instr.fieldAt 53 (.pointer (some ⟨g, o, none⟩)) 3)) (.pointer (some ⟨g, o + 3, none⟩)) := Pu.ok fun w => by kernel_rfl
theorem K0 (a : Option Addr) (n c : Nat) : Pu Tryz.prog (xBuiltin .len #[51] 3 [false] [.slice a n c]) (.int .i64 (n : Int)) := a7R Tryz.underlying51 a n c
theorem G7 {a : Option Addr} {g o : Nat} (ha : a = some ⟨g, o, none⟩) (len cap : Nat) (k : IntKind) (i : Int) (h0 : 0 ≤ i) (h1 : i < len) : Pu Tryz.prog (xV (Instr.indexAt 51 (.slice a len cap) (.int k i))) (.pointer (some ⟨g, o + i.toNat * 4, none⟩)) := a9X Tryz.underlying51 Tryz.sizeOf53 ha len cap k i h0 h1
theorem a6p {g o : Nat} : Pu Tryz.prog (xV (Instr.fieldAt 53 (.pointer (some ⟨g, o, none⟩)) 1)) (.pointer (some ⟨g, o + 1, none⟩)) := Pu.ok fun w => by kernel_rfl
theorem a2X {g o : Nat} : Pu Tryz.prog (xV (Instr.fieldAt 59 (.pointer (some ⟨g, o, none⟩)) 0)) (.pointer (some ⟨g, o + 0, none⟩)) := Pu.ok fun w => by kernel_rfl
theorem b3K  : Pu Tryz.prog (xV (Instr.build 25 #[])) (.agg #[(Value.slice none 0 0), (Value.slice none 0 0)]) := Pu.ok fun w => by kernel_rfl
theorem b0O (a0a : Option Addr) (a0n a0c : Nat) (a1a : Option Addr) (a1n a1c : Nat) : Pu Tryz.prog (xV (Instr.build 25 #[(0, (Value.slice a0a a0n a0c)), (1, (Value.slice a1a a1n a1c))])) (.agg #[(Value.slice a0a a0n a0c), (Value.slice a1a a1n a1c)]) := Pu.ok fun w => by kernel_rfl
theorem d4A (a0 : Int) (a1 : Int) : Pu Tryz.prog (xV (Instr.build 67 #[(0, (Value.int .i64 a0)), (1, (Value.int .i64 a1))])) (.agg #[(Value.int .i64 a0), (Value.int .i64 a1)]) := Pu.ok fun w => by kernel_rfl
abbrev w6 (x : E0) : List Value := [(Value.string x.f6), (Value.int .i64 x.a1Z)]
theorem a8D (x : E0) : (w6 x).length = 2 := rfl
theorem b6O (x : E0) : (w6 x).all (·.oneCell') = true := rfl
theorem g7o : Tryz.prog.info? 71 = some ((Tryz.prog.info? 71).getD default) := by kernel_rfl
theorem d5U {E : Pan} {w0 w : World} {ps : Nat → Prop} {H0 H : Hp} {Fs : List Frag} {K : Value → World → Prop} {s : Sl} {xs : List E0} {F : Frag} {t2 : Sl} {ys : List E0} {ks : List Bool} {ty : TypeId} (I : Inv w0 ps H0 H (F :: Fs) w) (hr : RowL 71 2 w6 s xs F) (hs : SrcO w w6 t2 ys) (hb : (xs.length + ys.length) * 25 ≤ 140737488355328) (h : ∀ (s' : Sl) (F' : Frag) (w' : World), RowL 71 2 w6 s' (xs ++ ys) F' → Inv w0 ps H0 H (F' :: Fs) w' → (∀ k, k < w.heap.size → (∀ p ∈ F, p.1 ≠ k) → w'.heap[k]? = w.heap[k]?) → K (.slice s'.a s'.n s'.c) w') : opK Tryz.prog E (xBuiltin .append #[22, 22] ty ks [.slice s.a s.n s.c, .slice t2.a t2.n t2.c]) w K :=
  c6P (bytes := 24) Tryz.underlying22 g7o (z := (Value.agg #[(Value.string ⟨#[]⟩), (Value.int .i64 0)])) (by kernel_rfl) (by kernel_rfl) (by kernel_rfl) (by kernel_rfl) I hr hs hb h
abbrev d9 (x : d6) : List Value := [(Value.int .i64 x.b6), (Value.string x.f6), (Value.slice x.f5.a x.f5.n x.f5.c), (Value.slice x.i4.a x.i4.n x.i4.c), (Value.slice x.A5.a x.A5.n x.A5.c), (Value.slice x.z6.a x.z6.n x.z6.c)]
theorem U0 (x : d6) : (d9 x).length = 6 := rfl
theorem Z7 (x : d6) : (d9 x).all (·.oneCell') = true := rfl
theorem a7j {g o : Nat} : Pu Tryz.prog (xV (Instr.fieldAt 67 (.pointer (some ⟨g, o, none⟩)) 1)) (.pointer (some ⟨g, o + 1, none⟩)) := Pu.ok fun w => by kernel_rfl
theorem a6W {a : Option Addr} {g o : Nat} (ha : a = some ⟨g, o, none⟩) (len cap : Nat) (k : IntKind) (i : Int) (h0 : 0 ≤ i) (h1 : i < len) : Pu Tryz.prog (xV (Instr.indexAt 23 (.slice a len cap) (.int k i))) (.pointer (some ⟨g, o + i.toNat * 6, none⟩)) := a9X Tryz.underlying23 Tryz.sizeOf73 ha len cap k i h0 h1
theorem e3G {g o : Nat} : Pu Tryz.prog (xV (Instr.fieldAt 67 (.pointer (some ⟨g, o, none⟩)) 0)) (.pointer (some ⟨g, o + 0, none⟩)) := Pu.ok fun w => by kernel_rfl
theorem a0F {g o : Nat} : Pu Tryz.prog (xV (Instr.fieldAt 73 (.pointer (some ⟨g, o, none⟩)) 0)) (.pointer (some ⟨g, o + 0, none⟩)) := Pu.ok fun w => by kernel_rfl
theorem a8J {g o : Nat} : Pu Tryz.prog (xV (Instr.fieldAt 73 (.pointer (some ⟨g, o, none⟩)) 1)) (.pointer (some ⟨g, o + 1, none⟩)) := Pu.ok fun w => by kernel_rfl
theorem d4B (a0 : Int) (a1 : ByteArray) : Pu Tryz.prog (xV (Instr.build 73 #[(0, (Value.int .i64 a0)), (1, (Value.string a1))])) (.agg #[(Value.int .i64 a0), (Value.string a1), (Value.slice none 0 0), (Value.slice none 0 0), (Value.slice none 0 0), (Value.slice none 0 0)]) := Pu.ok fun w => by kernel_rfl
theorem R7 {g o : Nat} : Pu Tryz.prog (xV (Instr.fieldAt 73 (.pointer (some ⟨g, o, none⟩)) 3)) (.pointer (some ⟨g, o + 3, none⟩)) := Pu.ok fun w => by kernel_rfl
theorem V0 (a : Option Addr) (n c : Nat) : Pu Tryz.prog (xBuiltin .len #[57] 3 [false] [.slice a n c]) (.int .i64 (n : Int)) := a7R Tryz.underlying57 a n c
theorem a1T {a : Option Addr} {g o : Nat} (ha : a = some ⟨g, o, none⟩) (len cap : Nat) (k : IntKind) (i : Int) (h0 : 0 ≤ i) (h1 : i < len) : Pu Tryz.prog (xV (Instr.indexAt 57 (.slice a len cap) (.int k i))) (.pointer (some ⟨g, o + i.toNat * 4, none⟩)) := a9X Tryz.underlying57 Tryz.sizeOf59 ha len cap k i h0 h1
abbrev d8 (x : b7) : List Value := [(Value.int .i64 x.b6), (Value.int .i64 x.fOp), (Value.slice x.f5.a x.f5.n x.f5.c), (Value.slice x.o3.a x.o3.n x.o3.c)]
theorem a5p (x : b7) : (d8 x).length = 4 := rfl
theorem a5q (x : b7) : (d8 x).all (·.oneCell') = true := rfl
theorem c6Q (a7S : Int) (a7T : Int) (a0_2a : Option Addr) (a0_2n a0_2c : Nat) (a0_3a : Option Addr) (a0_3n a0_3c : Nat) (w : World) : (Instr.buildSlice 57 1 #[(0, (Value.agg #[(Value.int .i64 a7S), (Value.int .i64 a7T), (Value.slice a0_2a a0_2n a0_2c), (Value.slice a0_3a a0_3n a0_3c)]))]).run Tryz.prog w = .ok (.slice (some ⟨w.heap.size, 0, none⟩) 1 1) (w.alloc (.cells [(Value.int .i64 a7S), (Value.int .i64 a7T), (Value.slice a0_2a a0_2n a0_2c), (Value.slice a0_3a a0_3n a0_3c)].toArray 59)) := by kernel_rfl
theorem g7p : Tryz.prog.info? 59 = some ((Tryz.prog.info? 59).getD default) := by kernel_rfl
theorem d0p {E : Pan} {w0 w : World} {ps : Nat → Prop} {H0 H : Hp} {Fs : List Frag} {K : Value → World → Prop} {s : Sl} {xs : List b7} {F : Frag} {t2 : Sl} {ys : List b7} {ks : List Bool} {ty : TypeId} (I : Inv w0 ps H0 H (F :: Fs) w) (hr : RowL 59 4 d8 s xs F) (hs : SrcO w d8 t2 ys) (hb : (xs.length + ys.length) * 65 ≤ 140737488355328) (h : ∀ (s' : Sl) (F' : Frag) (w' : World), RowL 59 4 d8 s' (xs ++ ys) F' → Inv w0 ps H0 H (F' :: Fs) w' → (∀ k, k < w.heap.size → (∀ p ∈ F, p.1 ≠ k) → w'.heap[k]? = w.heap[k]?) → K (.slice s'.a s'.n s'.c) w') : opK Tryz.prog E (xBuiltin .append #[57, 57] ty ks [.slice s.a s.n s.c, .slice t2.a t2.n t2.c]) w K :=
  c6P (bytes := 64) Tryz.underlying57 g7p (z := (Value.agg #[(Value.int .i64 0), (Value.int .i64 0), (Value.slice none 0 0), (Value.slice none 0 0)])) (by kernel_rfl) (by kernel_rfl) (by kernel_rfl) (by kernel_rfl) I hr hs hb h
theorem S9 {g o : Nat} : Pu Tryz.prog (xV (Instr.fieldAt 73 (.pointer (some ⟨g, o, none⟩)) 2)) (.pointer (some ⟨g, o + 2, none⟩)) := Pu.ok fun w => by kernel_rfl
theorem b7V (a7S : Int) (a7T : Int) (c4N : ByteArray) (a0_3a : Option Addr) (a0_3n a0_3c : Nat) (w : World) : (Instr.buildSlice 51 1 #[(0, (Value.agg #[(Value.int .i64 a7S), (Value.int .i64 a7T), (Value.string c4N), (Value.slice a0_3a a0_3n a0_3c)]))]).run Tryz.prog w = .ok (.slice (some ⟨w.heap.size, 0, none⟩) 1 1) (w.alloc (.cells [(Value.int .i64 a7S), (Value.int .i64 a7T), (Value.string c4N), (Value.slice a0_3a a0_3n a0_3c)].toArray 53)) := by kernel_rfl
theorem g7q : Tryz.prog.info? 53 = some ((Tryz.prog.info? 53).getD default) := by kernel_rfl
theorem c4O {E : Pan} {w0 w : World} {ps : Nat → Prop} {H0 H : Hp} {Fs : List Frag} {K : Value → World → Prop} {s : Sl} {xs : List a8} {F : Frag} {t2 : Sl} {ys : List a8} {ks : List Bool} {ty : TypeId} (I : Inv w0 ps H0 H (F :: Fs) w) (hr : RowL 53 4 b8 s xs F) (hs : SrcO w b8 t2 ys) (hb : (xs.length + ys.length) * 57 ≤ 140737488355328) (h : ∀ (s' : Sl) (F' : Frag) (w' : World), RowL 53 4 b8 s' (xs ++ ys) F' → Inv w0 ps H0 H (F' :: Fs) w' → (∀ k, k < w.heap.size → (∀ p ∈ F, p.1 ≠ k) → w'.heap[k]? = w.heap[k]?) → K (.slice s'.a s'.n s'.c) w') : opK Tryz.prog E (xBuiltin .append #[51, 51] ty ks [.slice s.a s.n s.c, .slice t2.a t2.n t2.c]) w K :=
  c6P (bytes := 56) Tryz.underlying51 g7q (z := (Value.agg #[(Value.int .i64 0), (Value.int .i64 0), (Value.string ⟨#[]⟩), (Value.slice none 0 0)])) (by kernel_rfl) (by kernel_rfl) (by kernel_rfl) (by kernel_rfl) I hr hs hb h
theorem U6 {g o : Nat} : Pu Tryz.prog (xV (Instr.fieldAt 73 (.pointer (some ⟨g, o, none⟩)) 4)) (.pointer (some ⟨g, o + 4, none⟩)) := Pu.ok fun w => by kernel_rfl
theorem Z2 {g o : Nat} : Pu Tryz.prog (xV (Instr.fieldAt 73 (.pointer (some ⟨g, o, none⟩)) 5)) (.pointer (some ⟨g, o + 5, none⟩)) := Pu.ok fun w => by kernel_rfl
theorem b5t (a7S : Int) (a7T : ByteArray) (a0_2a : Option Addr) (a0_2n a0_2c : Nat) (a0_3a : Option Addr) (a0_3n a0_3c : Nat) (a0_4a : Option Addr) (a0_4n a0_4c : Nat) (a0_5a : Option Addr) (a0_5n a0_5c : Nat) (w : World) : (Instr.buildSlice 23 1 #[(0, (Value.agg #[(Value.int .i64 a7S), (Value.string a7T), (Value.slice a0_2a a0_2n a0_2c), (Value.slice a0_3a a0_3n a0_3c), (Value.slice a0_4a a0_4n a0_4c), (Value.slice a0_5a a0_5n a0_5c)]))]).run Tryz.prog w = .ok (.slice (some ⟨w.heap.size, 0, none⟩) 1 1) (w.alloc (.cells [(Value.int .i64 a7S), (Value.string a7T), (Value.slice a0_2a a0_2n a0_2c), (Value.slice a0_3a a0_3n a0_3c), (Value.slice a0_4a a0_4n a0_4c), (Value.slice a0_5a a0_5n a0_5c)].toArray 73)) := by kernel_rfl
theorem g7r : Tryz.prog.info? 73 = some ((Tryz.prog.info? 73).getD default) := by kernel_rfl
theorem b4b {E : Pan} {w0 w : World} {ps : Nat → Prop} {H0 H : Hp} {Fs : List Frag} {K : Value → World → Prop} {s : Sl} {xs : List d6} {F : Frag} {t2 : Sl} {ys : List d6} {ks : List Bool} {ty : TypeId} (I : Inv w0 ps H0 H (F :: Fs) w) (hr : RowL 73 6 d9 s xs F) (hs : SrcO w d9 t2 ys) (hb : (xs.length + ys.length) * 121 ≤ 140737488355328) (h : ∀ (s' : Sl) (F' : Frag) (w' : World), RowL 73 6 d9 s' (xs ++ ys) F' → Inv w0 ps H0 H (F' :: Fs) w' → (∀ k, k < w.heap.size → (∀ p ∈ F, p.1 ≠ k) → w'.heap[k]? = w.heap[k]?) → K (.slice s'.a s'.n s'.c) w') : opK Tryz.prog E (xBuiltin .append #[23, 23] ty ks [.slice s.a s.n s.c, .slice t2.a t2.n t2.c]) w K :=
  c6P (bytes := 120) Tryz.underlying23 g7r (z := (Value.agg #[(Value.int .i64 0), (Value.string ⟨#[]⟩), (Value.slice none 0 0), (Value.slice none 0 0), (Value.slice none 0 0), (Value.slice none 0 0)])) (by kernel_rfl) (by kernel_rfl) (by kernel_rfl) (by kernel_rfl) I hr hs hb h
theorem b5u {a : Option Addr} {g o : Nat} (ha : a = some ⟨g, o, none⟩) (len cap : Nat) (k : IntKind) (i : Int) (h0 : 0 ≤ i) (h1 : i < len) : Pu Tryz.prog (xV (Instr.indexAt 22 (.slice a len cap) (.int k i))) (.pointer (some ⟨g, o + i.toNat * 2, none⟩)) := a9X Tryz.underlying22 Tryz.sizeOf71 ha len cap k i h0 h1
theorem g7s (d : Nat) (a0 b0 : ByteArray) (a1 b1 : Int) (w : World) : (Op.equalIn (d + 2) 71 (.agg #[(Value.string a0), (Value.int .i64 a1)]) (.agg #[(Value.string b0), (Value.int .i64 b1)])).run Tryz.prog w = .ok (decide (a0 = b0 ∧ a1 = b1)) w := by
  have u9 := Tryz.underlying9
  have i9 := Tryz.isAgg9
  have s9 := Tryz.sizeOf9
  have u3 := Tryz.underlying3
  have i3 := Tryz.isAgg3
  have s3 := Tryz.sizeOf3
  have hS : Tryz.prog.underlying 71 = some (.struct (Tryz.prog.fieldsOf 71)) := by kernel_rfl
  rw [run_equalIn_agg w (d + 1) 71 _ _ hS (by kernel_rfl)]
  simp only [Program.fieldsOf, Tryz.underlying71]
  go_simp
  try simp only [c8G]
  by_cases h0 : a0 = b0
  · by_cases h1 : a1 = b1
    · simp [h0, h1]
    · simp [h0, h1]
  · simp [h0]
theorem f3k (x y : Operand) (a0 b0 : ByteArray) (a1 b1 : Int) : Pu Tryz.prog (xBin .neq 71 x y (.agg #[(Value.string a0), (Value.int .i64 a1)]) (.agg #[(Value.string b0), (Value.int .i64 b1)])) (.bool (!decide (a0 = b0 ∧ a1 = b1))) := by
  refine Pu.ok (s := do eqGuard .neq 71 x y (.agg #[(Value.string a0), (Value.int .i64 a1)]) (.agg #[(Value.string b0), (Value.int .i64 b1)]); binOp .neq 71 (.agg #[(Value.string a0), (Value.int .i64 a1)]) (.agg #[(Value.string b0), (Value.int .i64 b1)])) fun w => ?_
  rw [Sem.run_bind, run_eqGuard_agg w _ _ _ _ _ _ (by kernel_rfl), Result.andThen_ok, run_neq_struct, show (10000 : Nat) = 9998 + 2 from rfl, g7s]
  rfl
theorem e9U  : Pu Tryz.prog (xV (Instr.build 53 #[])) (.agg #[(Value.int .i64 0), (Value.int .i64 0), (Value.string ⟨#[]⟩), (Value.slice none 0 0)]) := Pu.ok fun w => by kernel_rfl
theorem b6P (a0 : Int) (a1 : Int) : Pu Tryz.prog (xV (Instr.build 53 #[(0, (Value.int .i64 a0)), (1, (Value.int .i64 a1))])) (.agg #[(Value.int .i64 a0), (Value.int .i64 a1), (Value.string ⟨#[]⟩), (Value.slice none 0 0)]) := Pu.ok fun w => by kernel_rfl
theorem e9V  : Pu Tryz.prog (xV (Instr.build 59 #[])) (.agg #[(Value.int .i64 0), (Value.int .i64 0), (Value.slice none 0 0), (Value.slice none 0 0)]) := Pu.ok fun w => by kernel_rfl
theorem a9c {g o : Nat} : Pu Tryz.prog (xV (Instr.fieldAt 101 (.pointer (some ⟨g, o, none⟩)) 2)) (.pointer (some ⟨g, o + 2, none⟩)) := Pu.ok fun w => by kernel_rfl
theorem d0q (a0 : Int) (a3a : Option Addr) (a3n a3c : Nat) (a4a : Option Addr) (a4n a4c : Nat) : Pu Tryz.prog (xV (Instr.build 73 #[(0, (Value.int .i64 a0)), (3, (Value.slice a3a a3n a3c)), (4, (Value.slice a4a a4n a4c))])) (.agg #[(Value.int .i64 a0), (Value.string ⟨#[]⟩), (Value.slice none 0 0), (Value.slice a3a a3n a3c), (Value.slice a4a a4n a4c), (Value.slice none 0 0)]) := Pu.ok fun w => by kernel_rfl
theorem a0k {g o : Nat} : Pu Tryz.prog (xV (Instr.fieldAt 108 (.pointer (some ⟨g, o, none⟩)) 2)) (.pointer (some ⟨g, o + 2, none⟩)) := Pu.ok fun w => by kernel_rfl
theorem d2N (a0 : Bool) (a1 : Bool) : Pu Tryz.prog (xV (Instr.build 111 #[(0, (Value.bool a0)), (1, (Value.bool a1))])) (.agg #[(Value.bool a0), (Value.bool a1)]) := Pu.ok fun w => by kernel_rfl
theorem N8 {g o : Nat} : Pu Tryz.prog (xV (Instr.fieldAt 111 (.pointer (some ⟨g, o, none⟩)) 0)) (.pointer (some ⟨g, o + 0, none⟩)) := Pu.ok fun w => by kernel_rfl
theorem b7u {g o : Nat} : Pu Tryz.prog (xV (Instr.fieldAt 71 (.pointer (some ⟨g, o, none⟩)) 1)) (.pointer (some ⟨g, o + 1, none⟩)) := Pu.ok fun w => by kernel_rfl
theorem d0r {g o : Nat} : Pu Tryz.prog (xV (Instr.fieldAt 71 (.pointer (some ⟨g, o, none⟩)) 0)) (.pointer (some ⟨g, o + 0, none⟩)) := Pu.ok fun w => by kernel_rfl
theorem c0M {g o : Nat} : Pu Tryz.prog (xV (Instr.fieldAt 111 (.pointer (some ⟨g, o, none⟩)) 1)) (.pointer (some ⟨g, o + 1, none⟩)) := Pu.ok fun w => by kernel_rfl
theorem a6q {g o : Nat} : Pu Tryz.prog (xV (Instr.fieldAt 59 (.pointer (some ⟨g, o, none⟩)) 1)) (.pointer (some ⟨g, o + 1, none⟩)) := Pu.ok fun w => by kernel_rfl
theorem O4 {g o : Nat} : Pu Tryz.prog (xV (Instr.fieldAt 59 (.pointer (some ⟨g, o, none⟩)) 2)) (.pointer (some ⟨g, o + 2, none⟩)) := Pu.ok fun w => by kernel_rfl
theorem M5 {g o : Nat} : Pu Tryz.prog (xV (Instr.fieldAt 59 (.pointer (some ⟨g, o, none⟩)) 3)) (.pointer (some ⟨g, o + 3, none⟩)) := Pu.ok fun w => by kernel_rfl
theorem b1W {g o : Nat} : Pu Tryz.prog (xV (Instr.fieldAt 53 (.pointer (some ⟨g, o, none⟩)) 2)) (.pointer (some ⟨g, o + 2, none⟩)) := Pu.ok fun w => by kernel_rfl
theorem d5V {a0 a1 a2 : Value} : Pu Tryz.prog (xV (Instr.field 108 (.agg #[a0, a1, a2]) 2)) a2 := Pu.ok fun w => by kernel_rfl
theorem f3l (x y : Operand) (a b : Bool) : Pu Tryz.prog (xBin .eql 4 x y (.bool a) (.bool b)) (.bool (a == b)) := g7e _ _ _ a b Tryz.underlying4
theorem c2E (x y : Operand) (a b : Bool) : Pu Tryz.prog (xBin .neq 4 x y (.bool a) (.bool b)) (.bool (a != b)) := g7f _ _ _ a b Tryz.underlying4
abbrev O8 (x : ByteArray) : List Value := [(Value.string x)]
theorem c8t (x : ByteArray) : (O8 x).length = 1 := rfl
theorem c8u (x : ByteArray) : (O8 x).all (·.oneCell') = true := rfl
theorem f9X (a0 : ByteArray) (w : World) : (Instr.buildSlice 88 1 #[(0, (Value.string a0))]).run Tryz.prog w = .ok (.slice (some ⟨w.heap.size, 0, none⟩) 1 1) (w.alloc (.cells [(Value.string a0)].toArray 9)) := by kernel_rfl
theorem i5K : Tryz.prog.info? 9 = some ((Tryz.prog.info? 9).getD default) := by kernel_rfl
theorem g7t {E : Pan} {w0 w : World} {ps : Nat → Prop} {H0 H : Hp} {Fs : List Frag} {K : Value → World → Prop} {s : Sl} {xs : List ByteArray} {F : Frag} {t2 : Sl} {ys : List ByteArray} {ks : List Bool} {ty : TypeId} (I : Inv w0 ps H0 H (F :: Fs) w) (hr : RowL 9 1 O8 s xs F) (hs : SrcO w O8 t2 ys) (hb : (xs.length + ys.length) * 17 ≤ 140737488355328) (h : ∀ (s' : Sl) (F' : Frag) (w' : World), RowL 9 1 O8 s' (xs ++ ys) F' → Inv w0 ps H0 H (F' :: Fs) w' → (∀ k, k < w.heap.size → (∀ p ∈ F, p.1 ≠ k) → w'.heap[k]? = w.heap[k]?) → K (.slice s'.a s'.n s'.c) w') : opK Tryz.prog E (xBuiltin .append #[88, 88] ty ks [.slice s.a s.n s.c, .slice t2.a t2.n t2.c]) w K :=
  c6P (bytes := 16) Tryz.underlying88 i5K (z := (Value.string ⟨#[]⟩)) (by kernel_rfl) (by kernel_rfl) (by kernel_rfl) (by kernel_rfl) I hr hs hb h
theorem c4P (a7S : Int) (a7T : Int) (c4N : ByteArray) (a0_3a : Option Addr) (a0_3n a0_3c : Nat) : Pu Tryz.prog (xV (Instr.build 136 #[(0, (Value.agg #[(Value.int .i64 a7S), (Value.int .i64 a7T), (Value.string c4N), (Value.slice a0_3a a0_3n a0_3c)]))])) (.agg #[(Value.int .i64 a7S), (Value.int .i64 a7T), (Value.string c4N), (Value.slice a0_3a a0_3n a0_3c)]) := Pu.ok fun w => by kernel_rfl
theorem b5v (x : O3) : Pu Tryz.prog (xV (Instr.makeInterface 136 (.agg #[(Value.int .i64 x.t7.b6), (Value.int .i64 x.t7.o6), (Value.string x.t7.f6), (Value.slice x.t7.k9.a x.t7.k9.n x.t7.k9.c)]))) (E8 (g8.M0 x)) := Pu.ok fun w => rfl
abbrev v8 (x : g8) : List Value := [(E8 x)]
theorem T5 (x : g8) : (v8 x).length = 1 := rfl
theorem W0 (x : g8) : (v8 x).all (·.oneCell') = true := d4y x
theorem b5w (a0 : g8) (w : World) : (Instr.buildSlice 137 1 #[(0, (E8 a0))]).run Tryz.prog w = .ok (.slice (some ⟨w.heap.size, 0, none⟩) 1 1) (w.alloc (.cells [(E8 a0)].toArray 150)) := by cases a0 <;> kernel_rfl
theorem c4Q (a7S : Int) (a7T : Int) (a0_2a : Option Addr) (a0_2n a0_2c : Nat) (a0_3a : Option Addr) (a0_3n a0_3c : Nat) : Pu Tryz.prog (xV (Instr.build 143 #[(0, (Value.agg #[(Value.int .i64 a7S), (Value.int .i64 a7T), (Value.slice a0_2a a0_2n a0_2c), (Value.slice a0_3a a0_3n a0_3c)]))])) (.agg #[(Value.int .i64 a7S), (Value.int .i64 a7T), (Value.slice a0_2a a0_2n a0_2c), (Value.slice a0_3a a0_3n a0_3c)]) := Pu.ok fun w => by kernel_rfl
theorem c1E (x : R6) : Pu Tryz.prog (xV (Instr.makeInterface 143 (.agg #[(Value.int .i64 x.r8.b6), (Value.int .i64 x.r8.fOp), (Value.slice x.r8.f5.a x.r8.f5.n x.r8.f5.c), (Value.slice x.r8.o3.a x.r8.o3.n x.r8.o3.c)]))) (E8 (g8.R2 x)) := Pu.ok fun w => rfl
theorem d5W (a0a : Option Addr) (a0n a0c : Nat) (a1a : Option Addr) (a1n a1c : Nat) (w : World) : (Instr.buildSlice 179 2 #[(0, (Value.slice a0a a0n a0c)), (1, (Value.slice a1a a1n a1c))]).run Tryz.prog w = .ok (.slice (some ⟨w.heap.size, 0, none⟩) 2 2) (w.alloc (.cells [(Value.slice a0a a0n a0c), (Value.slice a1a a1n a1c)].toArray 137)) := by kernel_rfl
theorem e1Y (x y : Operand) (s : Sl) : Pu Tryz.prog (xBin .eql 22 x y (vs s) (.slice none 0 0)) (.bool s.a.isNone) := e9S _ _ _ s Tryz.underlying22
theorem f9Y  (w : World) : (Instr.buildSlice 22 0 #[]).run Tryz.prog w = .ok (.slice (some ⟨w.heap.size, 0, none⟩) 0 0) (w.alloc (.cells [].toArray 71)) := by kernel_rfl
theorem e3H  : Pu Tryz.prog (xV (Instr.build 108 #[])) (.agg #[(Value.int .i64 0), (Value.int .i64 0), (Value.int .i64 0)]) := Pu.ok fun w => by kernel_rfl
theorem c0N {g o : Nat} : Pu Tryz.prog (xV (Instr.fieldAt 108 (.pointer (some ⟨g, o, none⟩)) 0)) (.pointer (some ⟨g, o + 0, none⟩)) := Pu.ok fun w => by kernel_rfl
theorem c8v {g o : Nat} : Pu Tryz.prog (xV (Instr.fieldAt 108 (.pointer (some ⟨g, o, none⟩)) 1)) (.pointer (some ⟨g, o + 1, none⟩)) := Pu.ok fun w => by kernel_rfl
theorem d4C (a0 : Int) (a1 : Int) : Pu Tryz.prog (xV (Instr.build 59 #[(0, (Value.int .i64 a0)), (1, (Value.int .i64 a1))])) (.agg #[(Value.int .i64 a0), (Value.int .i64 a1), (Value.slice none 0 0), (Value.slice none 0 0)]) := Pu.ok fun w => by kernel_rfl
theorem d0s (a0 : Int) (a1 : Int) (a2 : ByteArray) : Pu Tryz.prog (xV (Instr.build 53 #[(0, (Value.int .i64 a0)), (1, (Value.int .i64 a1)), (2, (Value.string a2))])) (.agg #[(Value.int .i64 a0), (Value.int .i64 a1), (Value.string a2), (Value.slice none 0 0)]) := Pu.ok fun w => by kernel_rfl
theorem e3I  : Pu Tryz.prog (xV (Instr.build 101 #[])) (.agg #[(Value.int .i64 0), (Value.int .i64 0), (Value.int .i64 0), (Value.bool false), (Value.bool false), (Value.slice none 0 0)]) := Pu.ok fun w => by kernel_rfl
theorem b7v (a : Option Addr) (n c : Nat) : Pu Tryz.prog (xBuiltin .len #[137] 3 [false] [.slice a n c]) (.int .i64 (n : Int)) := a7R Tryz.underlying137 a n c
theorem e9W {a : Option Addr} {g o : Nat} (ha : a = some ⟨g, o, none⟩) (len cap : Nat) (k : IntKind) (i : Int) (h0 : 0 ≤ i) (h1 : i < len) : Pu Tryz.prog (xV (Instr.indexAt 137 (.slice a len cap) (.int k i))) (.pointer (some ⟨g, o + i.toNat * 1, none⟩)) := a9X Tryz.underlying137 Tryz.sizeOf150 ha len cap k i h0 h1
theorem c0O {g o : Nat} : Pu Tryz.prog (xV (Instr.fieldAt 101 (.pointer (some ⟨g, o, none⟩)) 0)) (.pointer (some ⟨g, o + 0, none⟩)) := Pu.ok fun w => by kernel_rfl
theorem c8w {g o : Nat} : Pu Tryz.prog (xV (Instr.fieldAt 101 (.pointer (some ⟨g, o, none⟩)) 1)) (.pointer (some ⟨g, o + 1, none⟩)) := Pu.ok fun w => by kernel_rfl
theorem c0P {g o : Nat} : Pu Tryz.prog (xV (Instr.fieldAt 101 (.pointer (some ⟨g, o, none⟩)) 3)) (.pointer (some ⟨g, o + 3, none⟩)) := Pu.ok fun w => by kernel_rfl
theorem c0Q {g o : Nat} : Pu Tryz.prog (xV (Instr.fieldAt 101 (.pointer (some ⟨g, o, none⟩)) 4)) (.pointer (some ⟨g, o + 4, none⟩)) := Pu.ok fun w => by kernel_rfl
theorem c0R {g o : Nat} : Pu Tryz.prog (xV (Instr.fieldAt 101 (.pointer (some ⟨g, o, none⟩)) 5)) (.pointer (some ⟨g, o + 5, none⟩)) := Pu.ok fun w => by kernel_rfl
theorem a3R {g o : Nat} (k : IntKind) (i : Int) (h0 : 0 ≤ i) (h1 : i < 2) : Pu Tryz.prog (xV (Instr.indexAt 173 (.pointer (some ⟨g, o, none⟩)) (.int k i))) (.pointer (some ⟨g, o + i.toNat * 1, none⟩)) := e1X Tryz.underlying173 Tryz.sizeOf2 k i h0 h1
theorem c8x (a0 : Int) : Pu Tryz.prog (xV (Instr.build 59 #[(0, (Value.int .i64 a0))])) (.agg #[(Value.int .i64 a0), (Value.int .i64 0), (Value.slice none 0 0), (Value.slice none 0 0)]) := Pu.ok fun w => by kernel_rfl
theorem b0V : Pu Tryz.prog (xV (Instr.build 177 #[(0, (Value.func (.func 149) #[] #[])), (1, (Value.func (.func 150) #[] #[])), (2, (Value.func (.func 151) #[] #[])), (3, (Value.func (.func 152) #[] #[])), (4, (Value.func (.func 153) #[] #[])), (5, (Value.func (.func 154) #[] #[])), (6, (Value.func (.func 155) #[] #[]))])) (.agg #[(Value.func (.func 149) #[] #[]), (Value.func (.func 150) #[] #[]), (Value.func (.func 151) #[] #[]), (Value.func (.func 152) #[] #[]), (Value.func (.func 153) #[] #[]), (Value.func (.func 154) #[] #[]), (Value.func (.func 155) #[] #[])]) := Pu.ok fun w => by kernel_rfl
theorem a2V (k : IntKind) (i : Int) (h0 : 0 ≤ i) (h1 : i < 7) : Pu Tryz.prog (xV (Instr.index 177 (.agg #[(Value.func (.func 149) #[] #[]), (Value.func (.func 150) #[] #[]), (Value.func (.func 151) #[] #[]), (Value.func (.func 152) #[] #[]), (Value.func (.func 153) #[] #[]), (Value.func (.func 154) #[] #[]), (Value.func (.func 155) #[] #[])]) (.int k i))) (([(Value.func (.func 149) #[] #[]), (Value.func (.func 150) #[] #[]), (Value.func (.func 151) #[] #[]), (Value.func (.func 152) #[] #[]), (Value.func (.func 153) #[] #[]), (Value.func (.func 154) #[] #[]), (Value.func (.func 155) #[] #[])] : List Value).getD i.toNat undef) := by
  obtain rfl | rfl | rfl | rfl | rfl | rfl | rfl := (by omega : i = 0 ∨ i = 1 ∨ i = 2 ∨ i = 3 ∨ i = 4 ∨ i = 5 ∨ i = 6)
  · exact Pu.ok fun w => by kernel_rfl
  · exact Pu.ok fun w => by kernel_rfl
  · exact Pu.ok fun w => by kernel_rfl
  · exact Pu.ok fun w => by kernel_rfl
  · exact Pu.ok fun w => by kernel_rfl
  · exact Pu.ok fun w => by kernel_rfl
  · exact Pu.ok fun w => by kernel_rfl
theorem d0t (a : Option Addr) (n c : Nat) : Pu Tryz.prog (xBuiltin .len #[179] 3 [false] [.slice a n c]) (.int .i64 (n : Int)) := a7R Tryz.underlying179 a n c
theorem d4f {a : Option Addr} {g o : Nat} (ha : a = some ⟨g, o, none⟩) (len cap : Nat) (k : IntKind) (i : Int) (h0 : 0 ≤ i) (h1 : i < len) : Pu Tryz.prog (xV (Instr.indexAt 179 (.slice a len cap) (.int k i))) (.pointer (some ⟨g, o + i.toNat * 1, none⟩)) := a9X Tryz.underlying179 Tryz.sizeOf137 ha len cap k i h0 h1
theorem e9X (s : ByteArray) : Pu Tryz.prog (xV (Instr.makeInterface 9 (.string s))) (.iface 9 (.string s)) := Pu.ok fun w => by kernel_rfl
theorem e2m : Tryz.prog.info? 150 = some ((Tryz.prog.info? 150).getD default) := by kernel_rfl
theorem c1F {E : Pan} {w0 w : World} {ps : Nat → Prop} {H0 H : Hp} {Fs : List Frag} {K : Value → World → Prop} {s : Sl} {xs : List g8} {F : Frag} {t2 : Sl} {ys : List g8} {ks : List Bool} {ty : TypeId} (I : Inv w0 ps H0 H (F :: Fs) w) (hr : RowL 150 1 v8 s xs F) (hs : SrcO w v8 t2 ys) (hb : (xs.length + ys.length) * 17 ≤ 140737488355328) (h : ∀ (s' : Sl) (F' : Frag) (w' : World), RowL 150 1 v8 s' (xs ++ ys) F' → Inv w0 ps H0 H (F' :: Fs) w' → (∀ k, k < w.heap.size → (∀ p ∈ F, p.1 ≠ k) → w'.heap[k]? = w.heap[k]?) → K (.slice s'.a s'.n s'.c) w') : opK Tryz.prog E (xBuiltin .append #[137, 137] ty ks [.slice s.a s.n s.c, .slice t2.a t2.n t2.c]) w K :=
  c6P (bytes := 16) Tryz.underlying137 e2m (z := Value.nilIface) (by kernel_rfl) (by kernel_rfl) (by kernel_rfl) (by kernel_rfl) I hr hs hb h
theorem d5X (a7S : ByteArray) (a7T : Int) : Pu Tryz.prog (xV (Instr.build 182 #[(0, (Value.agg #[(Value.string a7S), (Value.int .i64 a7T)]))])) (.agg #[(Value.string a7S), (Value.int .i64 a7T)]) := Pu.ok fun w => by kernel_rfl
theorem d2O (x : a0D) : Pu Tryz.prog (xV (Instr.makeInterface 182 (.agg #[(Value.string x.a0E.f6), (Value.int .i64 x.a0E.a1Z)]))) (E8 (g8.S2 x)) := Pu.ok fun w => rfl
theorem d5Y (a7S : Int) (a7T : ByteArray) (a0_2a : Option Addr) (a0_2n a0_2c : Nat) (a0_3a : Option Addr) (a0_3n a0_3c : Nat) (a0_4a : Option Addr) (a0_4n a0_4c : Nat) (a0_5a : Option Addr) (a0_5n a0_5c : Nat) : Pu Tryz.prog (xV (Instr.build 184 #[(0, (Value.agg #[(Value.int .i64 a7S), (Value.string a7T), (Value.slice a0_2a a0_2n a0_2c), (Value.slice a0_3a a0_3n a0_3c), (Value.slice a0_4a a0_4n a0_4c), (Value.slice a0_5a a0_5n a0_5c)]))])) (.agg #[(Value.int .i64 a7S), (Value.string a7T), (Value.slice a0_2a a0_2n a0_2c), (Value.slice a0_3a a0_3n a0_3c), (Value.slice a0_4a a0_4n a0_4c), (Value.slice a0_5a a0_5n a0_5c)]) := Pu.ok fun w => by kernel_rfl
theorem d2P (x : W7) : Pu Tryz.prog (xV (Instr.makeInterface 184 (.agg #[(Value.int .i64 x.j8.b6), (Value.string x.j8.f6), (Value.slice x.j8.f5.a x.j8.f5.n x.j8.f5.c), (Value.slice x.j8.i4.a x.j8.i4.n x.j8.i4.c), (Value.slice x.j8.A5.a x.j8.A5.n x.j8.A5.c), (Value.slice x.j8.z6.a x.j8.z6.n x.j8.z6.c)]))) (E8 (g8.P5 x)) := Pu.ok fun w => rfl
theorem c2F (s : ByteArray) : Pu Tryz.prog (xBuiltin .len #[9] 3 [false] [.string s]) (.int .i64 (s.size : Int)) := e3y _ _ s Tryz.underlying9
theorem c1G (s : ByteArray) (k : IntKind) (i : Int) (h0 : 0 ≤ i) (h1 : i < s.size) : Pu Tryz.prog (xV (Instr.index 9 (.string s) (.int k i))) (.int .u8 ((s.get! i.toNat).toNat : Int)) := d5O _ s k i Tryz.underlying9 h0 h1
theorem c4R (k : IntKind) (n : Int) : Pu Tryz.prog (xV (convert 5 3 (.int k n))) (.int .i64 (IntKind.wrap .i64 n)) := Pu.ok fun w => run_convert_int (P := Tryz.prog) (w := w) 5 3 k n (by rw [Tryz.underlying5]; rfl) Tryz.underlying3
theorem d4D (x : g8) : Pu Tryz.prog (xV (Instr.typeAssert (E8 x) 150 182 true)) (.tuple #[(Value.agg #[(Value.string ((((x.a2W)).a0E).f6)), (Value.int .i64 ((((x.a2W)).a0E).a1Z))]), .bool (x.b1U)]) := by
  cases x <;> exact Pu.ok fun w => by kernel_rfl
theorem c0S {g o : Nat} : Pu Tryz.prog (xV (Instr.fieldAt 182 (.pointer (some ⟨g, o, none⟩)) 0)) (.pointer (some ⟨g, o + 0, none⟩)) := Pu.ok fun w => by kernel_rfl
theorem d4E (x : g8) : Pu Tryz.prog (xV (Instr.typeAssert (E8 x) 150 184 true)) (.tuple #[(Value.agg #[(Value.int .i64 ((((x.o8)).j8).b6)), (Value.string ((((x.o8)).j8).f6)), (Value.slice ((((x.o8)).j8).f5).a ((((x.o8)).j8).f5).n ((((x.o8)).j8).f5).c), (Value.slice ((((x.o8)).j8).i4).a ((((x.o8)).j8).i4).n ((((x.o8)).j8).i4).c), (Value.slice ((((x.o8)).j8).A5).a ((((x.o8)).j8).A5).n ((((x.o8)).j8).A5).c), (Value.slice ((((x.o8)).j8).z6).a ((((x.o8)).j8).z6).n ((((x.o8)).j8).z6).c)]), .bool (x.b1V)]) := by
  cases x <;> exact Pu.ok fun w => by kernel_rfl
theorem V2 {g o : Nat} : Pu Tryz.prog (xV (Instr.fieldAt 184 (.pointer (some ⟨g, o, none⟩)) 0)) (.pointer (some ⟨g, o + 0, none⟩)) := Pu.ok fun w => by kernel_rfl
theorem d4F (x : g8) : Pu Tryz.prog (xV (Instr.typeAssert (E8 x) 150 136 true)) (.tuple #[(Value.agg #[(Value.int .i64 ((((x.A8)).t7).b6)), (Value.int .i64 ((((x.A8)).t7).o6)), (Value.string ((((x.A8)).t7).f6)), (Value.slice ((((x.A8)).t7).k9).a ((((x.A8)).t7).k9).n ((((x.A8)).t7).k9).c)]), .bool (x.b1T)]) := by
  cases x <;> exact Pu.ok fun w => by kernel_rfl
theorem a4H {g o : Nat} : Pu Tryz.prog (xV (Instr.fieldAt 136 (.pointer (some ⟨g, o, none⟩)) 0)) (.pointer (some ⟨g, o + 0, none⟩)) := Pu.ok fun w => by kernel_rfl
theorem c8y (k : IntKind) (n : Int) : Pu Tryz.prog (xV (convert 2 200 (.int k n))) (.int .u64 (IntKind.wrap .u64 n)) := Pu.ok fun w => run_convert_int (P := Tryz.prog) (w := w) 2 200 k n (by rw [Tryz.underlying2]; rfl) Tryz.underlying200
theorem f3m {a : Option Addr} {g o : Nat} (ha : a = some ⟨g, o, none⟩) (len cap : Nat) (k : IntKind) (i : Int) (h0 : 0 ≤ i) (h1 : i < len) : Pu Tryz.prog (xV (Instr.indexAt 88 (.slice a len cap) (.int k i))) (.pointer (some ⟨g, o + i.toNat * 1, none⟩)) := a9X Tryz.underlying88 Tryz.sizeOf9 ha len cap k i h0 h1
theorem a6r {g o : Nat} : Pu Tryz.prog (xV (Instr.fieldAt 143 (.pointer (some ⟨g, o, none⟩)) 0)) (.pointer (some ⟨g, o + 0, none⟩)) := Pu.ok fun w => by kernel_rfl
theorem b1X (a0 : Int) (a1 : Int) : Pu Tryz.prog (xV (Instr.build 236 #[(0, (Value.int .i64 a0)), (1, (Value.int .i64 a1))])) (.agg #[(Value.int .i64 a0), (Value.int .i64 a1)]) := Pu.ok fun w => by kernel_rfl
theorem f9Z (d : Nat) (a0 b0 : Int) (a1 b1 : Int) (w : World) : (Op.equalIn (d + 2) 236 (.agg #[(Value.int .i64 a0), (Value.int .i64 a1)]) (.agg #[(Value.int .i64 b0), (Value.int .i64 b1)])).run Tryz.prog w = .ok (decide (a0 = b0 ∧ a1 = b1)) w := by
  have u3 := Tryz.underlying3
  have i3 := Tryz.isAgg3
  have s3 := Tryz.sizeOf3
  have hS : Tryz.prog.underlying 236 = some (.struct (Tryz.prog.fieldsOf 236)) := by kernel_rfl
  rw [run_equalIn_agg w (d + 1) 236 _ _ hS (by kernel_rfl)]
  simp only [Program.fieldsOf, Tryz.underlying236]
  go_simp
  try simp only [c8G]
  by_cases h0 : a0 = b0
  · by_cases h1 : a1 = b1
    · simp [h0, h1]
    · simp [h0, h1]
  · simp [h0]
theorem c0s (x y : Operand) (a0 b0 : Int) (a1 b1 : Int) : Pu Tryz.prog (xBin .eql 236 x y (.agg #[(Value.int .i64 a0), (Value.int .i64 a1)]) (.agg #[(Value.int .i64 b0), (Value.int .i64 b1)])) (.bool (decide (a0 = b0 ∧ a1 = b1))) := by
  refine Pu.ok (s := do eqGuard .eql 236 x y (.agg #[(Value.int .i64 a0), (Value.int .i64 a1)]) (.agg #[(Value.int .i64 b0), (Value.int .i64 b1)]); binOp .eql 236 (.agg #[(Value.int .i64 a0), (Value.int .i64 a1)]) (.agg #[(Value.int .i64 b0), (Value.int .i64 b1)])) fun w => ?_
  rw [Sem.run_bind, run_eqGuard_agg w _ _ _ _ _ _ (by kernel_rfl), Result.andThen_ok, run_eql_struct, show (10000 : Nat) = 9998 + 2 from rfl, f9Z]
  rfl
theorem e3J  : Pu Tryz.prog (xV (Instr.build 236 #[])) (.agg #[(Value.int .i64 0), (Value.int .i64 0)]) := Pu.ok fun w => by kernel_rfl
theorem a7N (a0 : Int) (a1 : Int) : Pu Tryz.prog (xV (Instr.build 240 #[(0, (Value.int .i64 a0)), (1, (Value.int .i64 a1))])) (.agg #[(Value.int .i64 a0), (Value.int .i64 a1)]) := Pu.ok fun w => by kernel_rfl
theorem g0a (d : Nat) (a0 b0 : Int) (a1 b1 : Int) (w : World) : (Op.equalIn (d + 2) 240 (.agg #[(Value.int .i64 a0), (Value.int .i64 a1)]) (.agg #[(Value.int .i64 b0), (Value.int .i64 b1)])).run Tryz.prog w = .ok (decide (a0 = b0 ∧ a1 = b1)) w := by
  have u3 := Tryz.underlying3
  have i3 := Tryz.isAgg3
  have s3 := Tryz.sizeOf3
  have hS : Tryz.prog.underlying 240 = some (.struct (Tryz.prog.fieldsOf 240)) := by kernel_rfl
  rw [run_equalIn_agg w (d + 1) 240 _ _ hS (by kernel_rfl)]
  simp only [Program.fieldsOf, Tryz.underlying240]
  go_simp
  try simp only [c8G]
  by_cases h0 : a0 = b0
  · by_cases h1 : a1 = b1
    · simp [h0, h1]
    · simp [h0, h1]
  · simp [h0]
theorem b3L (x y : Operand) (a0 b0 : Int) (a1 b1 : Int) : Pu Tryz.prog (xBin .eql 240 x y (.agg #[(Value.int .i64 a0), (Value.int .i64 a1)]) (.agg #[(Value.int .i64 b0), (Value.int .i64 b1)])) (.bool (decide (a0 = b0 ∧ a1 = b1))) := by
  refine Pu.ok (s := do eqGuard .eql 240 x y (.agg #[(Value.int .i64 a0), (Value.int .i64 a1)]) (.agg #[(Value.int .i64 b0), (Value.int .i64 b1)]); binOp .eql 240 (.agg #[(Value.int .i64 a0), (Value.int .i64 a1)]) (.agg #[(Value.int .i64 b0), (Value.int .i64 b1)])) fun w => ?_
  rw [Sem.run_bind, run_eqGuard_agg w _ _ _ _ _ _ (by kernel_rfl), Result.andThen_ok, run_eql_struct, show (10000 : Nat) = 9998 + 2 from rfl, g0a]
  rfl
theorem e3K  : Pu Tryz.prog (xV (Instr.build 240 #[])) (.agg #[(Value.int .i64 0), (Value.int .i64 0)]) := Pu.ok fun w => by kernel_rfl
theorem f3n (a0a : Option Addr) (a0n a0c : Nat) (a1a : Option Addr) (a1n a1c : Nat) (a2a : Option Addr) (a2n a2c : Nat) (a3a : Option Addr) (a3n a3c : Nat) (w : World) : (Instr.buildSlice 179 4 #[(0, (Value.slice a0a a0n a0c)), (1, (Value.slice a1a a1n a1c)), (2, (Value.slice a2a a2n a2c)), (3, (Value.slice a3a a3n a3c))]).run Tryz.prog w = .ok (.slice (some ⟨w.heap.size, 0, none⟩) 4 4) (w.alloc (.cells [(Value.slice a0a a0n a0c), (Value.slice a1a a1n a1c), (Value.slice a2a a2n a2c), (Value.slice a3a a3n a3c)].toArray 137)) := by kernel_rfl
abbrev i5 (x : g7) : List Value := [(Value.slice x.r5.a x.r5.n x.r5.c), (Value.slice x.G3.a x.G3.n x.G3.c)]
abbrev q9 (x : g9) : List Value := [(Value.int .i64 x.fn), (Value.int .i64 x.fleft)]
abbrev b1Y (x : m7) : List Value := [(Value.int .i64 x.fnodes), (Value.int .i64 x.fdepth), (Value.int .i64 x.fe), (Value.bool x.fform), (Value.bool x.fnamed), (Value.slice x.fnames.a x.fnames.n x.fnames.c)]
abbrev i7 (x : d5) : List Value := [(Value.int .i64 x.fn), (Value.int .i64 x.fdepth), (Value.int .i64 x.fbad)]
abbrev k3 (x : b9) : List Value := [(Value.bool x.fok), (Value.bool x.fnames)]
end Go.Proofs.YtnhkdkcgdcgmdaaGreatDoor
