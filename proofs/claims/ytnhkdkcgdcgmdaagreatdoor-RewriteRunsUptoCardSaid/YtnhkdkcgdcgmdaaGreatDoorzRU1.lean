/- Single operations at this program's types, and its structures; printed by lift.py. -/
import Derived.Test.YtnhkdkcgdcgmdaaGreatDoorProg
import Derived.Test.YtnhkdkcgdcgmdaaGreatDoorzRS5
import Derived.KernelRfl
import Derived.Laws.StructEq
import Derived.Laws.Tables
import Derived.Laws.Cover2
namespace Go.Proofs.YtnhkdkcgdcgmdaaGreatDoor
open Go.RowKit
set_option maxRecDepth 100000
set_option maxHeartbeats 2000000
structure r7 where
  a0C : Sl
  a5H : Sl
structure t8 where
  P0 : Int
  V1 : Int
  W5 : Int
  G5 : Sl
  a4J : Sl
  L5 : Sl
structure b6 where
  a8 : Int
  p5 : Int
  b7 : ByteArray
  o9 : Sl
structure b9 where
  a8 : Int
  fOp : Int
  j7 : Sl
  t7 : Sl
structure d5H where
  fn : Int
  fleft : Int
structure r6 where
  b7 : ByteArray
  Q6 : Int
structure d5 where
  a8 : Int
  b7 : ByteArray
  j7 : Sl
  r8 : Sl
  A4 : Sl
  z7 : Sl
structure e9F where
  fscript : Sl
  fleft : Int
  fended : Bool
  fout : Bool
  fo : t8
  fnames : Sl
  flists : Sl
  ftaken : Int
structure a4f where
  b9g : Bool
  p5 : Int
  c4i : Bool
structure l9 where
  fnodes : Int
  fdepth : Int
  fe : Int
  fform : Bool
  fnamed : Bool
  fnames : Sl
structure c2x where
  fn : Int
  fdepth : Int
  fbad : Int
structure c2y where
  fok : Bool
  fnames : Bool
structure l7 where
  fl : Sl
structure g8 where
  fname : ByteArray
  fas : Int
structure c4j where
  b7 : ByteArray
  d6Z : Bool
structure M0 where
  t6 : b6
structure P1 where
  s7 : b9
structure h4o where
  fleft : Int
  fsteps : Int
  fscript : Sl
  fevents : Sl
  fvars : (Option Nat)
  farrays : (Option Nat)
structure V4 where
  V5 : r6
structure S4 where
  i7 : d5
structure a4z where
  f0 : Int
  f1 : Int
structure N9 where
  fexprs : Int
  fparts : Int
structure T0 where
  fexprs : Int
  fconds : Int
inductive d9 where
  | nil
  | K0 (x : M0)
  | O2 (x : P1)
  | P5 (x : V4)
  | N2 (x : S4)
def D1 : d9 → Value
  | .nil => .nilIface
  | .K0 x => .iface 136 (.agg #[(Value.int .i64 x.t6.a8), (Value.int .i64 x.t6.p5), (Value.string x.t6.b7), (Value.slice x.t6.o9.a x.t6.o9.n x.t6.o9.c)])
  | .O2 x => .iface 143 (.agg #[(Value.int .i64 x.s7.a8), (Value.int .i64 x.s7.fOp), (Value.slice x.s7.j7.a x.s7.j7.n x.s7.j7.c), (Value.slice x.s7.t7.a x.s7.t7.n x.s7.t7.c)])
  | .P5 x => .iface 182 (.agg #[(Value.string x.V5.b7), (Value.int .i64 x.V5.Q6)])
  | .N2 x => .iface 184 (.agg #[(Value.int .i64 x.i7.a8), (Value.string x.i7.b7), (Value.slice x.i7.j7.a x.i7.j7.n x.i7.j7.c), (Value.slice x.i7.r8.a x.i7.r8.n x.i7.r8.c), (Value.slice x.i7.A4.a x.i7.A4.n x.i7.A4.c), (Value.slice x.i7.z7.a x.i7.z7.n x.i7.z7.c)])
theorem c8s (x : d9) : [D1 x].all (·.oneCell') = true := by cases x <;> rfl
def d9.A5 : d9 → M0
  | .K0 x => x
  | _ => (M0.mk (b6.mk 0 0 ⟨#[]⟩ (Sl.mk none 0 0)))
def d9.a7Z : d9 → Bool
  | .K0 _ => true
  | _ => false
def d9.a0d : d9 → V4
  | .P5 x => x
  | _ => (V4.mk (r6.mk ⟨#[]⟩ 0))
def d9.a8a : d9 → Bool
  | .P5 _ => true
  | _ => false
def d9.p6 : d9 → S4
  | .N2 x => x
  | _ => (S4.mk (d5.mk 0 ⟨#[]⟩ (Sl.mk none 0 0) (Sl.mk none 0 0) (Sl.mk none 0 0) (Sl.mk none 0 0)))
def d9.a8b : d9 → Bool
  | .N2 _ => true
  | _ => false
theorem a9U {g o : Nat} : Pu Tryz.prog (xV (Instr.fieldAt 25 (.pointer (some ⟨g, o, none⟩)) 0)) (.pointer (some ⟨g, o + 0, none⟩)) := Pu.ok fun w => by kernel_rfl
theorem b4W (a : Option Addr) (n c : Nat) : Pu Tryz.prog (xBuiltin .len #[22] 3 [false] [.slice a n c]) (.int .i64 (n : Int)) := a0B Tryz.underlying22 a n c
theorem a8c {g o : Nat} : Pu Tryz.prog (xV (Instr.fieldAt 25 (.pointer (some ⟨g, o, none⟩)) 1)) (.pointer (some ⟨g, o + 1, none⟩)) := Pu.ok fun w => by kernel_rfl
theorem a6t (a : Option Addr) (n c : Nat) : Pu Tryz.prog (xBuiltin .len #[23] 3 [false] [.slice a n c]) (.int .i64 (n : Int)) := a0B Tryz.underlying23 a n c
abbrev c2z (x : Int) : List Value := [(Value.int .i64 x)]
theorem e9G : Tryz.prog.info? 2 = some ((Tryz.prog.info? 2).getD default) := by kernel_rfl
theorem e1l {E : Pan} {w0 w : World} {ps : Nat → Prop} {H0 H : Hp} {Fs : List Frag} {K : Value → World → Prop} {s : Sl} {xs : List Int} {F : Frag} {t2 : Sl} {ys : List Int} {ks : List Bool} {ty : TypeId} (I : Inv w0 ps H0 H (F :: Fs) w) (hr : RowL 2 1 c2z s xs F) (hs : SrcO w c2z t2 ys) (hb : (xs.length + ys.length) * 9 ≤ 140737488355328) (h : ∀ (s' : Sl) (F' : Frag) (w' : World), RowL 2 1 c2z s' (xs ++ ys) F' → Inv w0 ps H0 H (F' :: Fs) w' → (∀ k, k < w.heap.size → (∀ p ∈ F, p.1 ≠ k) → w'.heap[k]? = w.heap[k]?) → K (.slice s'.a s'.n s'.c) w') : opK Tryz.prog E (xBuiltin .append #[37, 37] ty ks [.slice s.a s.n s.c, .slice t2.a t2.n t2.c]) w K :=
  b1z (bytes := 8) Tryz.underlying37 e9G (z := (Value.int .i64 0)) (by kernel_rfl) (by kernel_rfl) (by kernel_rfl) (by kernel_rfl) I hr hs hb h
theorem b2y {g o : Nat} : Pu Tryz.prog (xV (Instr.fieldAt 42 (.pointer (some ⟨g, o, none⟩)) 4)) (.pointer (some ⟨g, o + 4, none⟩)) := Pu.ok fun w => by kernel_rfl
theorem a7B (a : Option Addr) (n c : Nat) : Pu Tryz.prog (xBuiltin .len #[37] 3 [false] [.slice a n c]) (.int .i64 (n : Int)) := a0B Tryz.underlying37 a n c
theorem a0u {a : Option Addr} {g o : Nat} (ha : a = some ⟨g, o, none⟩) (len cap : Nat) (k : IntKind) (i : Int) (h0 : 0 ≤ i) (h1 : i < len) : Pu Tryz.prog (xV (Instr.indexAt 37 (.slice a len cap) (.int k i))) (.pointer (some ⟨g, o + i.toNat * 1, none⟩)) := a1F Tryz.underlying37 Tryz.sizeOf2 ha len cap k i h0 h1
theorem b7o {g o : Nat} : Pu Tryz.prog (xV (Instr.fieldAt 42 (.pointer (some ⟨g, o, none⟩)) 0)) (.pointer (some ⟨g, o + 0, none⟩)) := Pu.ok fun w => by kernel_rfl
theorem a8d {g o : Nat} : Pu Tryz.prog (xV (Instr.fieldAt 42 (.pointer (some ⟨g, o, none⟩)) 2)) (.pointer (some ⟨g, o + 2, none⟩)) := Pu.ok fun w => by kernel_rfl
abbrev b8 (x : b6) : List Value := [(Value.int .i64 x.a8), (Value.int .i64 x.p5), (Value.string x.b7), (Value.slice x.o9.a x.o9.n x.o9.c)]
theorem a2j (x : b6) : (b8 x).length = 4 := rfl
theorem a2k (x : b6) : (b8 x).all (·.oneCell') = true := rfl
theorem c6n (a1I : Int) (a1J : Int) (b3p : ByteArray) (a0_3a : Option Addr) (a0_3n a0_3c : Nat) (f7H : Int) (f7I : Int) (f7J : ByteArray) (a1_3a : Option Addr) (a1_3n a1_3c : Nat) (w : World) : (Instr.buildSlice 51 2 #[(0, (Value.agg #[(Value.int .i64 a1I), (Value.int .i64 a1J), (Value.string b3p), (Value.slice a0_3a a0_3n a0_3c)])), (1, (Value.agg #[(Value.int .i64 f7H), (Value.int .i64 f7I), (Value.string f7J), (Value.slice a1_3a a1_3n a1_3c)]))]).run Tryz.prog w = .ok (.slice (some ⟨w.heap.size, 0, none⟩) 2 2) (w.alloc (.cells [(Value.int .i64 a1I), (Value.int .i64 a1J), (Value.string b3p), (Value.slice a0_3a a0_3n a0_3c), (Value.int .i64 f7H), (Value.int .i64 f7I), (Value.string f7J), (Value.slice a1_3a a1_3n a1_3c)].toArray 53)) := by kernel_rfl
theorem b2e (a0 : Int) (a3a : Option Addr) (a3n a3c : Nat) : Pu Tryz.prog (xV (Instr.build 53 #[(0, (Value.int .i64 a0)), (3, (Value.slice a3a a3n a3c))])) (.agg #[(Value.int .i64 a0), (Value.int .i64 0), (Value.string ⟨#[]⟩), (Value.slice a3a a3n a3c)]) := Pu.ok fun w => by kernel_rfl
theorem c8t (a0 : Int) (a2 : ByteArray) : Pu Tryz.prog (xV (Instr.build 53 #[(0, (Value.int .i64 a0)), (2, (Value.string a2))])) (.agg #[(Value.int .i64 a0), (Value.int .i64 0), (Value.string a2), (Value.slice none 0 0)]) := Pu.ok fun w => by kernel_rfl
theorem c4k (a0 : Int) (a1 : Int) (a2a : Option Addr) (a2n a2c : Nat) : Pu Tryz.prog (xV (Instr.build 59 #[(0, (Value.int .i64 a0)), (1, (Value.int .i64 a1)), (2, (Value.slice a2a a2n a2c))])) (.agg #[(Value.int .i64 a0), (Value.int .i64 a1), (Value.slice a2a a2n a2c), (Value.slice none 0 0)]) := Pu.ok fun w => by kernel_rfl
theorem Q7 {g o : Nat} : Pu Tryz.prog (xV (Instr.fieldAt 53 (.pointer (some ⟨g, o, none⟩)) 0)) (.pointer (some ⟨g, o + 0, none⟩)) := Pu.ok fun w => by kernel_rfl
theorem K5 {g o : Nat} : Pu Tryz.prog (xV (Instr.fieldAt 53 (.pointer (some ⟨g, o, none⟩)) 3)) (.pointer (some ⟨g, o + 3, none⟩)) := Pu.ok fun w => by kernel_rfl
theorem a2l (a : Option Addr) (n c : Nat) : Pu Tryz.prog (xBuiltin .len #[51] 3 [false] [.slice a n c]) (.int .i64 (n : Int)) := a0B Tryz.underlying51 a n c
theorem M4 {a : Option Addr} {g o : Nat} (ha : a = some ⟨g, o, none⟩) (len cap : Nat) (k : IntKind) (i : Int) (h0 : 0 ≤ i) (h1 : i < len) : Pu Tryz.prog (xV (Instr.indexAt 51 (.slice a len cap) (.int k i))) (.pointer (some ⟨g, o + i.toNat * 4, none⟩)) := a1F Tryz.underlying51 Tryz.sizeOf53 ha len cap k i h0 h1
theorem a6x {g o : Nat} : Pu Tryz.prog (xV (Instr.fieldAt 53 (.pointer (some ⟨g, o, none⟩)) 1)) (.pointer (some ⟨g, o + 1, none⟩)) := Pu.ok fun w => by kernel_rfl
theorem a1K {g o : Nat} : Pu Tryz.prog (xV (Instr.fieldAt 59 (.pointer (some ⟨g, o, none⟩)) 0)) (.pointer (some ⟨g, o + 0, none⟩)) := Pu.ok fun w => by kernel_rfl
theorem c7S  : Pu Tryz.prog (xV (Instr.build 25 #[])) (.agg #[(Value.slice none 0 0), (Value.slice none 0 0)]) := Pu.ok fun w => by kernel_rfl
theorem c8u (a0a : Option Addr) (a0n a0c : Nat) (a1a : Option Addr) (a1n a1c : Nat) : Pu Tryz.prog (xV (Instr.build 25 #[(0, (Value.slice a0a a0n a0c)), (1, (Value.slice a1a a1n a1c))])) (.agg #[(Value.slice a0a a0n a0c), (Value.slice a1a a1n a1c)]) := Pu.ok fun w => by kernel_rfl
abbrev r9 (x : r6) : List Value := [(Value.string x.b7), (Value.int .i64 x.Q6)]
theorem b8O (x : r6) : (r9 x).length = 2 := rfl
theorem c8v (x : r6) : (r9 x).all (·.oneCell') = true := rfl
theorem f7K : Tryz.prog.info? 71 = some ((Tryz.prog.info? 71).getD default) := by kernel_rfl
theorem f7L {E : Pan} {w0 w : World} {ps : Nat → Prop} {H0 H : Hp} {Fs : List Frag} {K : Value → World → Prop} {s : Sl} {xs : List r6} {F : Frag} {t2 : Sl} {ys : List r6} {ks : List Bool} {ty : TypeId} (I : Inv w0 ps H0 H (F :: Fs) w) (hr : RowL 71 2 r9 s xs F) (hs : SrcO w r9 t2 ys) (hb : (xs.length + ys.length) * 25 ≤ 140737488355328) (h : ∀ (s' : Sl) (F' : Frag) (w' : World), RowL 71 2 r9 s' (xs ++ ys) F' → Inv w0 ps H0 H (F' :: Fs) w' → (∀ k, k < w.heap.size → (∀ p ∈ F, p.1 ≠ k) → w'.heap[k]? = w.heap[k]?) → K (.slice s'.a s'.n s'.c) w') : opK Tryz.prog E (xBuiltin .append #[22, 22] ty ks [.slice s.a s.n s.c, .slice t2.a t2.n t2.c]) w K :=
  b1z (bytes := 24) Tryz.underlying22 f7K (z := (Value.agg #[(Value.string ⟨#[]⟩), (Value.int .i64 0)])) (by kernel_rfl) (by kernel_rfl) (by kernel_rfl) (by kernel_rfl) I hr hs hb h
abbrev g7 (x : d5) : List Value := [(Value.int .i64 x.a8), (Value.string x.b7), (Value.slice x.j7.a x.j7.n x.j7.c), (Value.slice x.r8.a x.r8.n x.r8.c), (Value.slice x.A4.a x.A4.n x.A4.c), (Value.slice x.z7.a x.z7.n x.z7.c)]
theorem a7e (x : d5) : (g7 x).length = 6 := rfl
theorem a8U (x : d5) : (g7 x).all (·.oneCell') = true := rfl
theorem b3q {a : Option Addr} {g o : Nat} (ha : a = some ⟨g, o, none⟩) (len cap : Nat) (k : IntKind) (i : Int) (h0 : 0 ≤ i) (h1 : i < len) : Pu Tryz.prog (xV (Instr.indexAt 23 (.slice a len cap) (.int k i))) (.pointer (some ⟨g, o + i.toNat * 6, none⟩)) := a1F Tryz.underlying23 Tryz.sizeOf73 ha len cap k i h0 h1
theorem a3d {g o : Nat} : Pu Tryz.prog (xV (Instr.fieldAt 73 (.pointer (some ⟨g, o, none⟩)) 0)) (.pointer (some ⟨g, o + 0, none⟩)) := Pu.ok fun w => by kernel_rfl
theorem a5d {g o : Nat} : Pu Tryz.prog (xV (Instr.fieldAt 73 (.pointer (some ⟨g, o, none⟩)) 1)) (.pointer (some ⟨g, o + 1, none⟩)) := Pu.ok fun w => by kernel_rfl
theorem a3e {g o : Nat} : Pu Tryz.prog (xV (Instr.fieldAt 73 (.pointer (some ⟨g, o, none⟩)) 3)) (.pointer (some ⟨g, o + 3, none⟩)) := Pu.ok fun w => by kernel_rfl
theorem a6u (a : Option Addr) (n c : Nat) : Pu Tryz.prog (xBuiltin .len #[57] 3 [false] [.slice a n c]) (.int .i64 (n : Int)) := a0B Tryz.underlying57 a n c
theorem a0P {a : Option Addr} {g o : Nat} (ha : a = some ⟨g, o, none⟩) (len cap : Nat) (k : IntKind) (i : Int) (h0 : 0 ≤ i) (h1 : i < len) : Pu Tryz.prog (xV (Instr.indexAt 57 (.slice a len cap) (.int k i))) (.pointer (some ⟨g, o + i.toNat * 4, none⟩)) := a1F Tryz.underlying57 Tryz.sizeOf59 ha len cap k i h0 h1
abbrev d6 (x : b9) : List Value := [(Value.int .i64 x.a8), (Value.int .i64 x.fOp), (Value.slice x.j7.a x.j7.n x.j7.c), (Value.slice x.t7.a x.t7.n x.t7.c)]
theorem a8V (x : b9) : (d6 x).length = 4 := rfl
theorem a8W (x : b9) : (d6 x).all (·.oneCell') = true := rfl
theorem d5I (a1I : Int) (a1J : Int) (a0_2a : Option Addr) (a0_2n a0_2c : Nat) (a0_3a : Option Addr) (a0_3n a0_3c : Nat) (w : World) : (Instr.buildSlice 57 1 #[(0, (Value.agg #[(Value.int .i64 a1I), (Value.int .i64 a1J), (Value.slice a0_2a a0_2n a0_2c), (Value.slice a0_3a a0_3n a0_3c)]))]).run Tryz.prog w = .ok (.slice (some ⟨w.heap.size, 0, none⟩) 1 1) (w.alloc (.cells [(Value.int .i64 a1I), (Value.int .i64 a1J), (Value.slice a0_2a a0_2n a0_2c), (Value.slice a0_3a a0_3n a0_3c)].toArray 59)) := by kernel_rfl
theorem f7M : Tryz.prog.info? 59 = some ((Tryz.prog.info? 59).getD default) := by kernel_rfl
theorem e1m {E : Pan} {w0 w : World} {ps : Nat → Prop} {H0 H : Hp} {Fs : List Frag} {K : Value → World → Prop} {s : Sl} {xs : List b9} {F : Frag} {t2 : Sl} {ys : List b9} {ks : List Bool} {ty : TypeId} (I : Inv w0 ps H0 H (F :: Fs) w) (hr : RowL 59 4 d6 s xs F) (hs : SrcO w d6 t2 ys) (hb : (xs.length + ys.length) * 65 ≤ 140737488355328) (h : ∀ (s' : Sl) (F' : Frag) (w' : World), RowL 59 4 d6 s' (xs ++ ys) F' → Inv w0 ps H0 H (F' :: Fs) w' → (∀ k, k < w.heap.size → (∀ p ∈ F, p.1 ≠ k) → w'.heap[k]? = w.heap[k]?) → K (.slice s'.a s'.n s'.c) w') : opK Tryz.prog E (xBuiltin .append #[57, 57] ty ks [.slice s.a s.n s.c, .slice t2.a t2.n t2.c]) w K :=
  b1z (bytes := 64) Tryz.underlying57 f7M (z := (Value.agg #[(Value.int .i64 0), (Value.int .i64 0), (Value.slice none 0 0), (Value.slice none 0 0)])) (by kernel_rfl) (by kernel_rfl) (by kernel_rfl) (by kernel_rfl) I hr hs hb h
theorem a4g {g o : Nat} : Pu Tryz.prog (xV (Instr.fieldAt 73 (.pointer (some ⟨g, o, none⟩)) 2)) (.pointer (some ⟨g, o + 2, none⟩)) := Pu.ok fun w => by kernel_rfl
theorem c6o (a1I : Int) (a1J : Int) (b3p : ByteArray) (a0_3a : Option Addr) (a0_3n a0_3c : Nat) (w : World) : (Instr.buildSlice 51 1 #[(0, (Value.agg #[(Value.int .i64 a1I), (Value.int .i64 a1J), (Value.string b3p), (Value.slice a0_3a a0_3n a0_3c)]))]).run Tryz.prog w = .ok (.slice (some ⟨w.heap.size, 0, none⟩) 1 1) (w.alloc (.cells [(Value.int .i64 a1I), (Value.int .i64 a1J), (Value.string b3p), (Value.slice a0_3a a0_3n a0_3c)].toArray 53)) := by kernel_rfl
theorem f7N : Tryz.prog.info? 53 = some ((Tryz.prog.info? 53).getD default) := by kernel_rfl
theorem e1n {E : Pan} {w0 w : World} {ps : Nat → Prop} {H0 H : Hp} {Fs : List Frag} {K : Value → World → Prop} {s : Sl} {xs : List b6} {F : Frag} {t2 : Sl} {ys : List b6} {ks : List Bool} {ty : TypeId} (I : Inv w0 ps H0 H (F :: Fs) w) (hr : RowL 53 4 b8 s xs F) (hs : SrcO w b8 t2 ys) (hb : (xs.length + ys.length) * 57 ≤ 140737488355328) (h : ∀ (s' : Sl) (F' : Frag) (w' : World), RowL 53 4 b8 s' (xs ++ ys) F' → Inv w0 ps H0 H (F' :: Fs) w' → (∀ k, k < w.heap.size → (∀ p ∈ F, p.1 ≠ k) → w'.heap[k]? = w.heap[k]?) → K (.slice s'.a s'.n s'.c) w') : opK Tryz.prog E (xBuiltin .append #[51, 51] ty ks [.slice s.a s.n s.c, .slice t2.a t2.n t2.c]) w K :=
  b1z (bytes := 56) Tryz.underlying51 f7N (z := (Value.agg #[(Value.int .i64 0), (Value.int .i64 0), (Value.string ⟨#[]⟩), (Value.slice none 0 0)])) (by kernel_rfl) (by kernel_rfl) (by kernel_rfl) (by kernel_rfl) I hr hs hb h
theorem a3f {g o : Nat} : Pu Tryz.prog (xV (Instr.fieldAt 73 (.pointer (some ⟨g, o, none⟩)) 4)) (.pointer (some ⟨g, o + 4, none⟩)) := Pu.ok fun w => by kernel_rfl
theorem a3g {g o : Nat} : Pu Tryz.prog (xV (Instr.fieldAt 73 (.pointer (some ⟨g, o, none⟩)) 5)) (.pointer (some ⟨g, o + 5, none⟩)) := Pu.ok fun w => by kernel_rfl
theorem d5J (a1I : Int) (a1J : ByteArray) (a0_2a : Option Addr) (a0_2n a0_2c : Nat) (a0_3a : Option Addr) (a0_3n a0_3c : Nat) (a0_4a : Option Addr) (a0_4n a0_4c : Nat) (a0_5a : Option Addr) (a0_5n a0_5c : Nat) (w : World) : (Instr.buildSlice 23 1 #[(0, (Value.agg #[(Value.int .i64 a1I), (Value.string a1J), (Value.slice a0_2a a0_2n a0_2c), (Value.slice a0_3a a0_3n a0_3c), (Value.slice a0_4a a0_4n a0_4c), (Value.slice a0_5a a0_5n a0_5c)]))]).run Tryz.prog w = .ok (.slice (some ⟨w.heap.size, 0, none⟩) 1 1) (w.alloc (.cells [(Value.int .i64 a1I), (Value.string a1J), (Value.slice a0_2a a0_2n a0_2c), (Value.slice a0_3a a0_3n a0_3c), (Value.slice a0_4a a0_4n a0_4c), (Value.slice a0_5a a0_5n a0_5c)].toArray 73)) := by kernel_rfl
theorem f7O : Tryz.prog.info? 73 = some ((Tryz.prog.info? 73).getD default) := by kernel_rfl
theorem e1o {E : Pan} {w0 w : World} {ps : Nat → Prop} {H0 H : Hp} {Fs : List Frag} {K : Value → World → Prop} {s : Sl} {xs : List d5} {F : Frag} {t2 : Sl} {ys : List d5} {ks : List Bool} {ty : TypeId} (I : Inv w0 ps H0 H (F :: Fs) w) (hr : RowL 73 6 g7 s xs F) (hs : SrcO w g7 t2 ys) (hb : (xs.length + ys.length) * 121 ≤ 140737488355328) (h : ∀ (s' : Sl) (F' : Frag) (w' : World), RowL 73 6 g7 s' (xs ++ ys) F' → Inv w0 ps H0 H (F' :: Fs) w' → (∀ k, k < w.heap.size → (∀ p ∈ F, p.1 ≠ k) → w'.heap[k]? = w.heap[k]?) → K (.slice s'.a s'.n s'.c) w') : opK Tryz.prog E (xBuiltin .append #[23, 23] ty ks [.slice s.a s.n s.c, .slice t2.a t2.n t2.c]) w K :=
  b1z (bytes := 120) Tryz.underlying23 f7O (z := (Value.agg #[(Value.int .i64 0), (Value.string ⟨#[]⟩), (Value.slice none 0 0), (Value.slice none 0 0), (Value.slice none 0 0), (Value.slice none 0 0)])) (by kernel_rfl) (by kernel_rfl) (by kernel_rfl) (by kernel_rfl) I hr hs hb h
theorem b7p {a : Option Addr} {g o : Nat} (ha : a = some ⟨g, o, none⟩) (len cap : Nat) (k : IntKind) (i : Int) (h0 : 0 ≤ i) (h1 : i < len) : Pu Tryz.prog (xV (Instr.indexAt 22 (.slice a len cap) (.int k i))) (.pointer (some ⟨g, o + i.toNat * 2, none⟩)) := a1F Tryz.underlying22 Tryz.sizeOf71 ha len cap k i h0 h1
theorem b2f (a0 : Int) (a1 : Int) : Pu Tryz.prog (xV (Instr.build 53 #[(0, (Value.int .i64 a0)), (1, (Value.int .i64 a1))])) (.agg #[(Value.int .i64 a0), (Value.int .i64 a1), (Value.string ⟨#[]⟩), (Value.slice none 0 0)]) := Pu.ok fun w => by kernel_rfl
theorem a3h {g o : Nat} : Pu Tryz.prog (xV (Instr.fieldAt 71 (.pointer (some ⟨g, o, none⟩)) 0)) (.pointer (some ⟨g, o + 0, none⟩)) := Pu.ok fun w => by kernel_rfl
abbrev M3 (x : ByteArray) : List Value := [(Value.string x)]
theorem c2j (x : ByteArray) : (M3 x).length = 1 := rfl
theorem c2k (x : ByteArray) : (M3 x).all (·.oneCell') = true := rfl
theorem f1d (a0 : ByteArray) (w : World) : (Instr.buildSlice 88 1 #[(0, (Value.string a0))]).run Tryz.prog w = .ok (.slice (some ⟨w.heap.size, 0, none⟩) 1 1) (w.alloc (.cells [(Value.string a0)].toArray 9)) := by kernel_rfl
theorem h4r : Tryz.prog.info? 9 = some ((Tryz.prog.info? 9).getD default) := by kernel_rfl
theorem f7P {E : Pan} {w0 w : World} {ps : Nat → Prop} {H0 H : Hp} {Fs : List Frag} {K : Value → World → Prop} {s : Sl} {xs : List ByteArray} {F : Frag} {t2 : Sl} {ys : List ByteArray} {ks : List Bool} {ty : TypeId} (I : Inv w0 ps H0 H (F :: Fs) w) (hr : RowL 9 1 M3 s xs F) (hs : SrcO w M3 t2 ys) (hb : (xs.length + ys.length) * 17 ≤ 140737488355328) (h : ∀ (s' : Sl) (F' : Frag) (w' : World), RowL 9 1 M3 s' (xs ++ ys) F' → Inv w0 ps H0 H (F' :: Fs) w' → (∀ k, k < w.heap.size → (∀ p ∈ F, p.1 ≠ k) → w'.heap[k]? = w.heap[k]?) → K (.slice s'.a s'.n s'.c) w') : opK Tryz.prog E (xBuiltin .append #[88, 88] ty ks [.slice s.a s.n s.c, .slice t2.a t2.n t2.c]) w K :=
  b1z (bytes := 16) Tryz.underlying88 h4r (z := (Value.string ⟨#[]⟩)) (by kernel_rfl) (by kernel_rfl) (by kernel_rfl) (by kernel_rfl) I hr hs hb h
theorem a6y {g o : Nat} : Pu Tryz.prog (xV (Instr.fieldAt 42 (.pointer (some ⟨g, o, none⟩)) 5)) (.pointer (some ⟨g, o + 5, none⟩)) := Pu.ok fun w => by kernel_rfl
theorem a6z {g o : Nat} : Pu Tryz.prog (xV (Instr.fieldAt 71 (.pointer (some ⟨g, o, none⟩)) 1)) (.pointer (some ⟨g, o + 1, none⟩)) := Pu.ok fun w => by kernel_rfl
theorem a8e {g o : Nat} : Pu Tryz.prog (xV (Instr.fieldAt 53 (.pointer (some ⟨g, o, none⟩)) 2)) (.pointer (some ⟨g, o + 2, none⟩)) := Pu.ok fun w => by kernel_rfl
theorem a9V {g o : Nat} : Pu Tryz.prog (xV (Instr.fieldAt 42 (.pointer (some ⟨g, o, none⟩)) 3)) (.pointer (some ⟨g, o + 3, none⟩)) := Pu.ok fun w => by kernel_rfl
theorem c8w (a0 : Bool) (a1 : Int) : Pu Tryz.prog (xV (Instr.build 95 #[(0, (Value.bool a0)), (1, (Value.int .i64 a1))])) (.agg #[(Value.bool a0), (Value.int .i64 a1), (Value.bool false)]) := Pu.ok fun w => by kernel_rfl
abbrev S5 (x : a4f) : List Value := [(Value.bool x.b9g), (Value.int .i64 x.p5), (Value.bool x.c4i)]
theorem b0H (x : a4f) : (S5 x).length = 3 := rfl
theorem b0I (x : a4f) : (S5 x).all (·.oneCell') = true := rfl
theorem d5K (a1I : Bool) (a1J : Int) (b3p : Bool) (w : World) : (Instr.buildSlice 39 1 #[(0, (Value.agg #[(Value.bool a1I), (Value.int .i64 a1J), (Value.bool b3p)]))]).run Tryz.prog w = .ok (.slice (some ⟨w.heap.size, 0, none⟩) 1 1) (w.alloc (.cells [(Value.bool a1I), (Value.int .i64 a1J), (Value.bool b3p)].toArray 95)) := by kernel_rfl
theorem f7Q : Tryz.prog.info? 95 = some ((Tryz.prog.info? 95).getD default) := by kernel_rfl
theorem e1p {E : Pan} {w0 w : World} {ps : Nat → Prop} {H0 H : Hp} {Fs : List Frag} {K : Value → World → Prop} {s : Sl} {xs : List a4f} {F : Frag} {t2 : Sl} {ys : List a4f} {ks : List Bool} {ty : TypeId} (I : Inv w0 ps H0 H (F :: Fs) w) (hr : RowL 95 3 S5 s xs F) (hs : SrcO w S5 t2 ys) (hb : (xs.length + ys.length) * 25 ≤ 140737488355328) (h : ∀ (s' : Sl) (F' : Frag) (w' : World), RowL 95 3 S5 s' (xs ++ ys) F' → Inv w0 ps H0 H (F' :: Fs) w' → (∀ k, k < w.heap.size → (∀ p ∈ F, p.1 ≠ k) → w'.heap[k]? = w.heap[k]?) → K (.slice s'.a s'.n s'.c) w') : opK Tryz.prog E (xBuiltin .append #[39, 39] ty ks [.slice s.a s.n s.c, .slice t2.a t2.n t2.c]) w K :=
  b1z (bytes := 24) Tryz.underlying39 f7Q (z := (Value.agg #[(Value.bool false), (Value.int .i64 0), (Value.bool false)])) (by kernel_rfl) (by kernel_rfl) (by kernel_rfl) (by kernel_rfl) I hr hs hb h
theorem c9H {a : Option Addr} {g o : Nat} (ha : a = some ⟨g, o, none⟩) (len cap : Nat) (k : IntKind) (i : Int) (h0 : 0 ≤ i) (h1 : i < len) : Pu Tryz.prog (xV (Instr.indexAt 40 (.slice a len cap) (.int k i))) (.pointer (some ⟨g, o + i.toNat * 1, none⟩)) := a1F Tryz.underlying40 Tryz.sizeOf37 ha len cap k i h0 h1
theorem c4l {g o : Nat} : Pu Tryz.prog (xV (Instr.fieldAt 42 (.pointer (some ⟨g, o, none⟩)) 1)) (.pointer (some ⟨g, o + 1, none⟩)) := Pu.ok fun w => by kernel_rfl
theorem V6 {g o : Nat} : Pu Tryz.prog (xV (Instr.fieldAt 59 (.pointer (some ⟨g, o, none⟩)) 3)) (.pointer (some ⟨g, o + 3, none⟩)) := Pu.ok fun w => by kernel_rfl
theorem a1L {g o : Nat} : Pu Tryz.prog (xV (Instr.fieldAt 59 (.pointer (some ⟨g, o, none⟩)) 2)) (.pointer (some ⟨g, o + 2, none⟩)) := Pu.ok fun w => by kernel_rfl
theorem a9W {g o : Nat} : Pu Tryz.prog (xV (Instr.fieldAt 59 (.pointer (some ⟨g, o, none⟩)) 1)) (.pointer (some ⟨g, o + 1, none⟩)) := Pu.ok fun w => by kernel_rfl
theorem b9h (a : Option Addr) (n c : Nat) : Pu Tryz.prog (xBuiltin .len #[39] 3 [false] [.slice a n c]) (.int .i64 (n : Int)) := a0B Tryz.underlying39 a n c
theorem b9i (a : Option Addr) (n c : Nat) : Pu Tryz.prog (xBuiltin .len #[40] 3 [false] [.slice a n c]) (.int .i64 (n : Int)) := a0B Tryz.underlying40 a n c
theorem c9I {a : Option Addr} {g o : Nat} (ha : a = some ⟨g, o, none⟩) (len cap : Nat) (k : IntKind) (i : Int) (h0 : 0 ≤ i) (h1 : i < len) : Pu Tryz.prog (xV (Instr.indexAt 39 (.slice a len cap) (.int k i))) (.pointer (some ⟨g, o + i.toNat * 3, none⟩)) := a1F Tryz.underlying39 Tryz.sizeOf95 ha len cap k i h0 h1
theorem f7R (d : Nat) (a0 b0 : Bool) (a1 b1 : Int) (a2 b2 : Bool) (w : World) : (Op.equalIn (d + 2) 95 (.agg #[(Value.bool a0), (Value.int .i64 a1), (Value.bool a2)]) (.agg #[(Value.bool b0), (Value.int .i64 b1), (Value.bool b2)])).run Tryz.prog w = .ok (decide (a0 = b0 ∧ a1 = b1 ∧ a2 = b2)) w := by
  have u4 := Tryz.underlying4
  have i4 := Tryz.isAgg4
  have s4 := Tryz.sizeOf4
  have u2 := Tryz.underlying2
  have i2 := Tryz.isAgg2
  have s2 := Tryz.sizeOf2
  have hS : Tryz.prog.underlying 95 = some (.struct (Tryz.prog.fieldsOf 95)) := by kernel_rfl
  rw [run_equalIn_agg w (d + 1) 95 _ _ hS (by kernel_rfl)]
  simp only [Program.fieldsOf, Tryz.underlying95]
  go_simp
  try simp only [c2v]
  by_cases h0 : a0 = b0
  · by_cases h1 : a1 = b1
    · by_cases h2 : a2 = b2
      · simp [h0, h1, h2]
      · simp [h0, h1, h2]
    · simp [h0, h1]
  · simp [h0]
theorem e5b (x y : Operand) (a0 b0 : Bool) (a1 b1 : Int) (a2 b2 : Bool) : Pu Tryz.prog (xBin .neq 95 x y (.agg #[(Value.bool a0), (Value.int .i64 a1), (Value.bool a2)]) (.agg #[(Value.bool b0), (Value.int .i64 b1), (Value.bool b2)])) (.bool (!decide (a0 = b0 ∧ a1 = b1 ∧ a2 = b2))) := by
  refine Pu.ok (s := do eqGuard .neq 95 x y (.agg #[(Value.bool a0), (Value.int .i64 a1), (Value.bool a2)]) (.agg #[(Value.bool b0), (Value.int .i64 b1), (Value.bool b2)]); binOp .neq 95 (.agg #[(Value.bool a0), (Value.int .i64 a1), (Value.bool a2)]) (.agg #[(Value.bool b0), (Value.int .i64 b1), (Value.bool b2)])) fun w => ?_
  rw [Sem.run_bind, run_eqGuard_agg w _ _ _ _ _ _ (by kernel_rfl), Result.andThen_ok, run_neq_struct, show (10000 : Nat) = 9998 + 2 from rfl, f7R]
  rfl
theorem e1q  : Pu Tryz.prog (xV (Instr.build 53 #[])) (.agg #[(Value.int .i64 0), (Value.int .i64 0), (Value.string ⟨#[]⟩), (Value.slice none 0 0)]) := Pu.ok fun w => by kernel_rfl
theorem e1r  : Pu Tryz.prog (xV (Instr.build 59 #[])) (.agg #[(Value.int .i64 0), (Value.int .i64 0), (Value.slice none 0 0), (Value.slice none 0 0)]) := Pu.ok fun w => by kernel_rfl
theorem a5r {g o : Nat} : Pu Tryz.prog (xV (Instr.fieldAt 101 (.pointer (some ⟨g, o, none⟩)) 2)) (.pointer (some ⟨g, o + 2, none⟩)) := Pu.ok fun w => by kernel_rfl
theorem d7a  : Pu Tryz.prog (xV (Instr.build 125 #[])) (.agg #[(Value.slice none 0 0)]) := Pu.ok fun w => by kernel_rfl
abbrev z8 (x : g8) : List Value := [(Value.string x.fname), (Value.int .i64 x.fas)]
theorem a7f (x : g8) : (z8 x).length = 2 := rfl
theorem a7g (x : g8) : (z8 x).all (·.oneCell') = true := rfl
theorem a3i {g o : Nat} : Pu Tryz.prog (xV (Instr.fieldAt 125 (.pointer (some ⟨g, o, none⟩)) 0)) (.pointer (some ⟨g, o + 0, none⟩)) := Pu.ok fun w => by kernel_rfl
theorem a8f (a0 : ByteArray) (a1 : Int) : Pu Tryz.prog (xV (Instr.build 127 #[(0, (Value.string a0)), (1, (Value.int .i64 a1))])) (.agg #[(Value.string a0), (Value.int .i64 a1)]) := Pu.ok fun w => by kernel_rfl
theorem b7q (a1I : ByteArray) (a1J : Int) (w : World) : (Instr.buildSlice 123 1 #[(0, (Value.agg #[(Value.string a1I), (Value.int .i64 a1J)]))]).run Tryz.prog w = .ok (.slice (some ⟨w.heap.size, 0, none⟩) 1 1) (w.alloc (.cells [(Value.string a1I), (Value.int .i64 a1J)].toArray 127)) := by kernel_rfl
theorem f1e : Tryz.prog.info? 127 = some ((Tryz.prog.info? 127).getD default) := by kernel_rfl
theorem c1e {E : Pan} {w0 w : World} {ps : Nat → Prop} {H0 H : Hp} {Fs : List Frag} {K : Value → World → Prop} {s : Sl} {xs : List g8} {F : Frag} {t2 : Sl} {ys : List g8} {ks : List Bool} {ty : TypeId} (I : Inv w0 ps H0 H (F :: Fs) w) (hr : RowL 127 2 z8 s xs F) (hs : SrcO w z8 t2 ys) (hb : (xs.length + ys.length) * 25 ≤ 140737488355328) (h : ∀ (s' : Sl) (F' : Frag) (w' : World), RowL 127 2 z8 s' (xs ++ ys) F' → Inv w0 ps H0 H (F' :: Fs) w' → (∀ k, k < w.heap.size → (∀ p ∈ F, p.1 ≠ k) → w'.heap[k]? = w.heap[k]?) → K (.slice s'.a s'.n s'.c) w') : opK Tryz.prog E (xBuiltin .append #[123, 123] ty ks [.slice s.a s.n s.c, .slice t2.a t2.n t2.c]) w K :=
  b1z (bytes := 24) Tryz.underlying123 f1e (z := (Value.agg #[(Value.string ⟨#[]⟩), (Value.int .i64 0)])) (by kernel_rfl) (by kernel_rfl) (by kernel_rfl) (by kernel_rfl) I hr hs hb h
theorem e1s {a : Option Addr} {g o : Nat} (ha : a = some ⟨g, o, none⟩) (len cap : Nat) (k : IntKind) (i : Int) (h0 : 0 ≤ i) (h1 : i < len) : Pu Tryz.prog (xV (Instr.indexAt 123 (.slice a len cap) (.int k i))) (.pointer (some ⟨g, o + i.toNat * 2, none⟩)) := a1F Tryz.underlying123 Tryz.sizeOf127 ha len cap k i h0 h1
theorem b5s {g o : Nat} : Pu Tryz.prog (xV (Instr.fieldAt 127 (.pointer (some ⟨g, o, none⟩)) 0)) (.pointer (some ⟨g, o + 0, none⟩)) := Pu.ok fun w => by kernel_rfl
theorem d5j {g o : Nat} : Pu Tryz.prog (xV (Instr.fieldAt 127 (.pointer (some ⟨g, o, none⟩)) 1)) (.pointer (some ⟨g, o + 1, none⟩)) := Pu.ok fun w => by kernel_rfl
theorem e5c (x y : Operand) (a b : Bool) : Pu Tryz.prog (xBin .eql 4 x y (.bool a) (.bool b)) (.bool (a == b)) := f7x _ _ _ a b Tryz.underlying4
theorem b7r (x y : Operand) (a b : Bool) : Pu Tryz.prog (xBin .neq 4 x y (.bool a) (.bool b)) (.bool (a != b)) := f7y _ _ _ a b Tryz.underlying4
theorem b9j (a1I : Int) (a1J : Int) (b3p : ByteArray) (a0_3a : Option Addr) (a0_3n a0_3c : Nat) : Pu Tryz.prog (xV (Instr.build 136 #[(0, (Value.agg #[(Value.int .i64 a1I), (Value.int .i64 a1J), (Value.string b3p), (Value.slice a0_3a a0_3n a0_3c)]))])) (.agg #[(Value.int .i64 a1I), (Value.int .i64 a1J), (Value.string b3p), (Value.slice a0_3a a0_3n a0_3c)]) := Pu.ok fun w => by kernel_rfl
theorem b0J (x : M0) : Pu Tryz.prog (xV (Instr.makeInterface 136 (.agg #[(Value.int .i64 x.t6.a8), (Value.int .i64 x.t6.p5), (Value.string x.t6.b7), (Value.slice x.t6.o9.a x.t6.o9.n x.t6.o9.c)]))) (D1 (d9.K0 x)) := Pu.ok fun w => rfl
abbrev v6 (x : d9) : List Value := [(D1 x)]
theorem Q2 (x : d9) : (v6 x).length = 1 := rfl
theorem R5 (x : d9) : (v6 x).all (·.oneCell') = true := c8s x
theorem b0K (a0 : d9) (w : World) : (Instr.buildSlice 137 1 #[(0, (D1 a0))]).run Tryz.prog w = .ok (.slice (some ⟨w.heap.size, 0, none⟩) 1 1) (w.alloc (.cells [(D1 a0)].toArray 150)) := by cases a0 <;> kernel_rfl
theorem b9k (a1I : Int) (a1J : Int) (a0_2a : Option Addr) (a0_2n a0_2c : Nat) (a0_3a : Option Addr) (a0_3n a0_3c : Nat) : Pu Tryz.prog (xV (Instr.build 143 #[(0, (Value.agg #[(Value.int .i64 a1I), (Value.int .i64 a1J), (Value.slice a0_2a a0_2n a0_2c), (Value.slice a0_3a a0_3n a0_3c)]))])) (.agg #[(Value.int .i64 a1I), (Value.int .i64 a1J), (Value.slice a0_2a a0_2n a0_2c), (Value.slice a0_3a a0_3n a0_3c)]) := Pu.ok fun w => by kernel_rfl
theorem b6p (x : P1) : Pu Tryz.prog (xV (Instr.makeInterface 143 (.agg #[(Value.int .i64 x.s7.a8), (Value.int .i64 x.s7.fOp), (Value.slice x.s7.j7.a x.s7.j7.n x.s7.j7.c), (Value.slice x.s7.t7.a x.s7.t7.n x.s7.t7.c)]))) (D1 (d9.O2 x)) := Pu.ok fun w => rfl
theorem c9J (a0a : Option Addr) (a0n a0c : Nat) (a1a : Option Addr) (a1n a1c : Nat) (w : World) : (Instr.buildSlice 179 2 #[(0, (Value.slice a0a a0n a0c)), (1, (Value.slice a1a a1n a1c))]).run Tryz.prog w = .ok (.slice (some ⟨w.heap.size, 0, none⟩) 2 2) (w.alloc (.cells [(Value.slice a0a a0n a0c), (Value.slice a1a a1n a1c)].toArray 137)) := by kernel_rfl
theorem d5k (x y : Operand) (s : Sl) : Pu Tryz.prog (xBin .eql 22 x y (vs s) (.slice none 0 0)) (.bool s.a.isNone) := e1j _ _ _ s Tryz.underlying22
theorem f1f  (w : World) : (Instr.buildSlice 22 0 #[]).run Tryz.prog w = .ok (.slice (some ⟨w.heap.size, 0, none⟩) 0 0) (w.alloc (.cells [].toArray 71)) := by kernel_rfl
theorem b2z {g o : Nat} : Pu Tryz.prog (xV (Instr.fieldAt 80 (.pointer (some ⟨g, o, none⟩)) 4)) (.pointer (some ⟨g, o + 4, none⟩)) := Pu.ok fun w => by kernel_rfl
theorem b7s {g o : Nat} : Pu Tryz.prog (xV (Instr.fieldAt 80 (.pointer (some ⟨g, o, none⟩)) 0)) (.pointer (some ⟨g, o + 0, none⟩)) := Pu.ok fun w => by kernel_rfl
theorem c8x (a0 : Int) (a1 : Int) : Pu Tryz.prog (xV (Instr.build 83 #[(0, (Value.int .i64 a0)), (1, (Value.int .i64 a1))])) (.agg #[(Value.int .i64 a0), (Value.int .i64 a1)]) := Pu.ok fun w => by kernel_rfl
theorem b7t {g o : Nat} : Pu Tryz.prog (xV (Instr.fieldAt 80 (.pointer (some ⟨g, o, none⟩)) 1)) (.pointer (some ⟨g, o + 1, none⟩)) := Pu.ok fun w => by kernel_rfl
theorem d7b  : Pu Tryz.prog (xV (Instr.build 101 #[])) (.agg #[(Value.int .i64 0), (Value.int .i64 0), (Value.int .i64 0), (Value.bool false), (Value.bool false), (Value.slice none 0 0)]) := Pu.ok fun w => by kernel_rfl
theorem b2A (a : Option Addr) (n c : Nat) : Pu Tryz.prog (xBuiltin .len #[137] 3 [false] [.slice a n c]) (.int .i64 (n : Int)) := a0B Tryz.underlying137 a n c
theorem e1t {a : Option Addr} {g o : Nat} (ha : a = some ⟨g, o, none⟩) (len cap : Nat) (k : IntKind) (i : Int) (h0 : 0 ≤ i) (h1 : i < len) : Pu Tryz.prog (xV (Instr.indexAt 137 (.slice a len cap) (.int k i))) (.pointer (some ⟨g, o + i.toNat * 1, none⟩)) := a1F Tryz.underlying137 Tryz.sizeOf150 ha len cap k i h0 h1
theorem b5t {g o : Nat} : Pu Tryz.prog (xV (Instr.fieldAt 101 (.pointer (some ⟨g, o, none⟩)) 0)) (.pointer (some ⟨g, o + 0, none⟩)) := Pu.ok fun w => by kernel_rfl
theorem c2l {g o : Nat} : Pu Tryz.prog (xV (Instr.fieldAt 101 (.pointer (some ⟨g, o, none⟩)) 1)) (.pointer (some ⟨g, o + 1, none⟩)) := Pu.ok fun w => by kernel_rfl
theorem b5u {g o : Nat} : Pu Tryz.prog (xV (Instr.fieldAt 101 (.pointer (some ⟨g, o, none⟩)) 3)) (.pointer (some ⟨g, o + 3, none⟩)) := Pu.ok fun w => by kernel_rfl
theorem b5v {g o : Nat} : Pu Tryz.prog (xV (Instr.fieldAt 101 (.pointer (some ⟨g, o, none⟩)) 4)) (.pointer (some ⟨g, o + 4, none⟩)) := Pu.ok fun w => by kernel_rfl
theorem b5w {g o : Nat} : Pu Tryz.prog (xV (Instr.fieldAt 101 (.pointer (some ⟨g, o, none⟩)) 5)) (.pointer (some ⟨g, o + 5, none⟩)) := Pu.ok fun w => by kernel_rfl
theorem a0I {g o : Nat} (k : IntKind) (i : Int) (h0 : 0 ≤ i) (h1 : i < 2) : Pu Tryz.prog (xV (Instr.indexAt 173 (.pointer (some ⟨g, o, none⟩)) (.int k i))) (.pointer (some ⟨g, o + i.toNat * 1, none⟩)) := d5h Tryz.underlying173 Tryz.sizeOf2 k i h0 h1
theorem c2m (a0 : Int) : Pu Tryz.prog (xV (Instr.build 59 #[(0, (Value.int .i64 a0))])) (.agg #[(Value.int .i64 a0), (Value.int .i64 0), (Value.slice none 0 0), (Value.slice none 0 0)]) := Pu.ok fun w => by kernel_rfl
theorem a7k : Pu Tryz.prog (xV (Instr.build 177 #[(0, (Value.func (.func 149) #[] #[])), (1, (Value.func (.func 150) #[] #[])), (2, (Value.func (.func 151) #[] #[])), (3, (Value.func (.func 152) #[] #[])), (4, (Value.func (.func 153) #[] #[])), (5, (Value.func (.func 154) #[] #[])), (6, (Value.func (.func 155) #[] #[]))])) (.agg #[(Value.func (.func 149) #[] #[]), (Value.func (.func 150) #[] #[]), (Value.func (.func 151) #[] #[]), (Value.func (.func 152) #[] #[]), (Value.func (.func 153) #[] #[]), (Value.func (.func 154) #[] #[]), (Value.func (.func 155) #[] #[])]) := Pu.ok fun w => by kernel_rfl
theorem a0b (k : IntKind) (i : Int) (h0 : 0 ≤ i) (h1 : i < 7) : Pu Tryz.prog (xV (Instr.index 177 (.agg #[(Value.func (.func 149) #[] #[]), (Value.func (.func 150) #[] #[]), (Value.func (.func 151) #[] #[]), (Value.func (.func 152) #[] #[]), (Value.func (.func 153) #[] #[]), (Value.func (.func 154) #[] #[]), (Value.func (.func 155) #[] #[])]) (.int k i))) (([(Value.func (.func 149) #[] #[]), (Value.func (.func 150) #[] #[]), (Value.func (.func 151) #[] #[]), (Value.func (.func 152) #[] #[]), (Value.func (.func 153) #[] #[]), (Value.func (.func 154) #[] #[]), (Value.func (.func 155) #[] #[])] : List Value).getD i.toNat undef) := by
  obtain rfl | rfl | rfl | rfl | rfl | rfl | rfl := (by omega : i = 0 ∨ i = 1 ∨ i = 2 ∨ i = 3 ∨ i = 4 ∨ i = 5 ∨ i = 6)
  · exact Pu.ok fun w => by kernel_rfl
  · exact Pu.ok fun w => by kernel_rfl
  · exact Pu.ok fun w => by kernel_rfl
  · exact Pu.ok fun w => by kernel_rfl
  · exact Pu.ok fun w => by kernel_rfl
  · exact Pu.ok fun w => by kernel_rfl
  · exact Pu.ok fun w => by kernel_rfl
theorem c4m (a : Option Addr) (n c : Nat) : Pu Tryz.prog (xBuiltin .len #[179] 3 [false] [.slice a n c]) (.int .i64 (n : Int)) := a0B Tryz.underlying179 a n c
theorem c7T {a : Option Addr} {g o : Nat} (ha : a = some ⟨g, o, none⟩) (len cap : Nat) (k : IntKind) (i : Int) (h0 : 0 ≤ i) (h1 : i < len) : Pu Tryz.prog (xV (Instr.indexAt 179 (.slice a len cap) (.int k i))) (.pointer (some ⟨g, o + i.toNat * 1, none⟩)) := a1F Tryz.underlying179 Tryz.sizeOf137 ha len cap k i h0 h1
theorem e1u (s : ByteArray) : Pu Tryz.prog (xV (Instr.makeInterface 9 (.string s))) (.iface 9 (.string s)) := Pu.ok fun w => by kernel_rfl
theorem d5L : Tryz.prog.info? 150 = some ((Tryz.prog.info? 150).getD default) := by kernel_rfl
theorem b6q {E : Pan} {w0 w : World} {ps : Nat → Prop} {H0 H : Hp} {Fs : List Frag} {K : Value → World → Prop} {s : Sl} {xs : List d9} {F : Frag} {t2 : Sl} {ys : List d9} {ks : List Bool} {ty : TypeId} (I : Inv w0 ps H0 H (F :: Fs) w) (hr : RowL 150 1 v6 s xs F) (hs : SrcO w v6 t2 ys) (hb : (xs.length + ys.length) * 17 ≤ 140737488355328) (h : ∀ (s' : Sl) (F' : Frag) (w' : World), RowL 150 1 v6 s' (xs ++ ys) F' → Inv w0 ps H0 H (F' :: Fs) w' → (∀ k, k < w.heap.size → (∀ p ∈ F, p.1 ≠ k) → w'.heap[k]? = w.heap[k]?) → K (.slice s'.a s'.n s'.c) w') : opK Tryz.prog E (xBuiltin .append #[137, 137] ty ks [.slice s.a s.n s.c, .slice t2.a t2.n t2.c]) w K :=
  b1z (bytes := 16) Tryz.underlying137 d5L (z := Value.nilIface) (by kernel_rfl) (by kernel_rfl) (by kernel_rfl) (by kernel_rfl) I hr hs hb h
theorem c9K (a1I : ByteArray) (a1J : Int) : Pu Tryz.prog (xV (Instr.build 182 #[(0, (Value.agg #[(Value.string a1I), (Value.int .i64 a1J)]))])) (.agg #[(Value.string a1I), (Value.int .i64 a1J)]) := Pu.ok fun w => by kernel_rfl
theorem c6p (x : V4) : Pu Tryz.prog (xV (Instr.makeInterface 182 (.agg #[(Value.string x.V5.b7), (Value.int .i64 x.V5.Q6)]))) (D1 (d9.P5 x)) := Pu.ok fun w => rfl
theorem c9L (a1I : Int) (a1J : ByteArray) (a0_2a : Option Addr) (a0_2n a0_2c : Nat) (a0_3a : Option Addr) (a0_3n a0_3c : Nat) (a0_4a : Option Addr) (a0_4n a0_4c : Nat) (a0_5a : Option Addr) (a0_5n a0_5c : Nat) : Pu Tryz.prog (xV (Instr.build 184 #[(0, (Value.agg #[(Value.int .i64 a1I), (Value.string a1J), (Value.slice a0_2a a0_2n a0_2c), (Value.slice a0_3a a0_3n a0_3c), (Value.slice a0_4a a0_4n a0_4c), (Value.slice a0_5a a0_5n a0_5c)]))])) (.agg #[(Value.int .i64 a1I), (Value.string a1J), (Value.slice a0_2a a0_2n a0_2c), (Value.slice a0_3a a0_3n a0_3c), (Value.slice a0_4a a0_4n a0_4c), (Value.slice a0_5a a0_5n a0_5c)]) := Pu.ok fun w => by kernel_rfl
theorem c6q (x : S4) : Pu Tryz.prog (xV (Instr.makeInterface 184 (.agg #[(Value.int .i64 x.i7.a8), (Value.string x.i7.b7), (Value.slice x.i7.j7.a x.i7.j7.n x.i7.j7.c), (Value.slice x.i7.r8.a x.i7.r8.n x.i7.r8.c), (Value.slice x.i7.A4.a x.i7.A4.n x.i7.A4.c), (Value.slice x.i7.z7.a x.i7.z7.n x.i7.z7.c)]))) (D1 (d9.N2 x)) := Pu.ok fun w => rfl
theorem d5M (a0 : Int) (w : World) : (Instr.buildSlice 37 1 #[(0, (Value.int .i64 a0))]).run Tryz.prog w = .ok (.slice (some ⟨w.heap.size, 0, none⟩) 1 1) (w.alloc (.cells [(Value.int .i64 a0)].toArray 2)) := by kernel_rfl
theorem b2B {g o : Nat} : Pu Tryz.prog (xV (Instr.fieldAt 80 (.pointer (some ⟨g, o, none⟩)) 2)) (.pointer (some ⟨g, o + 2, none⟩)) := Pu.ok fun w => by kernel_rfl
theorem a9X {g o : Nat} : Pu Tryz.prog (xV (Instr.fieldAt 80 (.pointer (some ⟨g, o, none⟩)) 3)) (.pointer (some ⟨g, o + 3, none⟩)) := Pu.ok fun w => by kernel_rfl
theorem b7u {g o : Nat} : Pu Tryz.prog (xV (Instr.fieldAt 80 (.pointer (some ⟨g, o, none⟩)) 5)) (.pointer (some ⟨g, o + 5, none⟩)) := Pu.ok fun w => by kernel_rfl
theorem e5d {a : Option Addr} {g o : Nat} (ha : a = some ⟨g, o, none⟩) (len cap : Nat) (k : IntKind) (i : Int) (h0 : 0 ≤ i) (h1 : i < len) : Pu Tryz.prog (xV (Instr.indexAt 88 (.slice a len cap) (.int k i))) (.pointer (some ⟨g, o + i.toNat * 1, none⟩)) := a1F Tryz.underlying88 Tryz.sizeOf9 ha len cap k i h0 h1
theorem c8y (x : d9) : Pu Tryz.prog (xV (Instr.typeAssert (D1 x) 150 182 true)) (.tuple #[(Value.agg #[(Value.string ((((x.a0d)).V5).b7)), (Value.int .i64 ((((x.a0d)).V5).Q6))]), .bool (x.a8a)]) := by
  cases x <;> exact Pu.ok fun w => by kernel_rfl
theorem b5x {g o : Nat} : Pu Tryz.prog (xV (Instr.fieldAt 182 (.pointer (some ⟨g, o, none⟩)) 0)) (.pointer (some ⟨g, o + 0, none⟩)) := Pu.ok fun w => by kernel_rfl
theorem c8z (x : d9) : Pu Tryz.prog (xV (Instr.typeAssert (D1 x) 150 184 true)) (.tuple #[(Value.agg #[(Value.int .i64 ((((x.p6)).i7).a8)), (Value.string ((((x.p6)).i7).b7)), (Value.slice ((((x.p6)).i7).j7).a ((((x.p6)).i7).j7).n ((((x.p6)).i7).j7).c), (Value.slice ((((x.p6)).i7).r8).a ((((x.p6)).i7).r8).n ((((x.p6)).i7).r8).c), (Value.slice ((((x.p6)).i7).A4).a ((((x.p6)).i7).A4).n ((((x.p6)).i7).A4).c), (Value.slice ((((x.p6)).i7).z7).a ((((x.p6)).i7).z7).n ((((x.p6)).i7).z7).c)]), .bool (x.a8b)]) := by
  cases x <;> exact Pu.ok fun w => by kernel_rfl
theorem Q9 {g o : Nat} : Pu Tryz.prog (xV (Instr.fieldAt 184 (.pointer (some ⟨g, o, none⟩)) 0)) (.pointer (some ⟨g, o + 0, none⟩)) := Pu.ok fun w => by kernel_rfl
theorem c8A (x : d9) : Pu Tryz.prog (xV (Instr.typeAssert (D1 x) 150 136 true)) (.tuple #[(Value.agg #[(Value.int .i64 ((((x.A5)).t6).a8)), (Value.int .i64 ((((x.A5)).t6).p5)), (Value.string ((((x.A5)).t6).b7)), (Value.slice ((((x.A5)).t6).o9).a ((((x.A5)).t6).o9).n ((((x.A5)).t6).o9).c)]), .bool (x.a7Z)]) := by
  cases x <;> exact Pu.ok fun w => by kernel_rfl
theorem a1E {g o : Nat} : Pu Tryz.prog (xV (Instr.fieldAt 136 (.pointer (some ⟨g, o, none⟩)) 0)) (.pointer (some ⟨g, o + 0, none⟩)) := Pu.ok fun w => by kernel_rfl
theorem c2n (k : IntKind) (n : Int) : Pu Tryz.prog (xV (convert 2 200 (.int k n))) (.int .u64 (IntKind.wrap .u64 n)) := Pu.ok fun w => run_convert_int (P := Tryz.prog) (w := w) 2 200 k n (by rw [Tryz.underlying2]; rfl) Tryz.underlying200
theorem a3j {g o : Nat} : Pu Tryz.prog (xV (Instr.fieldAt 143 (.pointer (some ⟨g, o, none⟩)) 0)) (.pointer (some ⟨g, o + 0, none⟩)) := Pu.ok fun w => by kernel_rfl
theorem a8g (a0 : Int) (a1 : Int) : Pu Tryz.prog (xV (Instr.build 236 #[(0, (Value.int .i64 a0)), (1, (Value.int .i64 a1))])) (.agg #[(Value.int .i64 a0), (Value.int .i64 a1)]) := Pu.ok fun w => by kernel_rfl
theorem f1g (d : Nat) (a0 b0 : Int) (a1 b1 : Int) (w : World) : (Op.equalIn (d + 2) 236 (.agg #[(Value.int .i64 a0), (Value.int .i64 a1)]) (.agg #[(Value.int .i64 b0), (Value.int .i64 b1)])).run Tryz.prog w = .ok (decide (a0 = b0 ∧ a1 = b1)) w := by
  have u3 := Tryz.underlying3
  have i3 := Tryz.isAgg3
  have s3 := Tryz.sizeOf3
  have hS : Tryz.prog.underlying 236 = some (.struct (Tryz.prog.fieldsOf 236)) := by kernel_rfl
  rw [run_equalIn_agg w (d + 1) 236 _ _ hS (by kernel_rfl)]
  simp only [Program.fieldsOf, Tryz.underlying236]
  go_simp
  try simp only [c2v]
  by_cases h0 : a0 = b0
  · by_cases h1 : a1 = b1
    · simp [h0, h1]
    · simp [h0, h1]
  · simp [h0]
theorem b4X (x y : Operand) (a0 b0 : Int) (a1 b1 : Int) : Pu Tryz.prog (xBin .eql 236 x y (.agg #[(Value.int .i64 a0), (Value.int .i64 a1)]) (.agg #[(Value.int .i64 b0), (Value.int .i64 b1)])) (.bool (decide (a0 = b0 ∧ a1 = b1))) := by
  refine Pu.ok (s := do eqGuard .eql 236 x y (.agg #[(Value.int .i64 a0), (Value.int .i64 a1)]) (.agg #[(Value.int .i64 b0), (Value.int .i64 b1)]); binOp .eql 236 (.agg #[(Value.int .i64 a0), (Value.int .i64 a1)]) (.agg #[(Value.int .i64 b0), (Value.int .i64 b1)])) fun w => ?_
  rw [Sem.run_bind, run_eqGuard_agg w _ _ _ _ _ _ (by kernel_rfl), Result.andThen_ok, run_eql_struct, show (10000 : Nat) = 9998 + 2 from rfl, f1g]
  rfl
theorem d7c  : Pu Tryz.prog (xV (Instr.build 236 #[])) (.agg #[(Value.int .i64 0), (Value.int .i64 0)]) := Pu.ok fun w => by kernel_rfl
theorem a4A (a0 : Int) (a1 : Int) : Pu Tryz.prog (xV (Instr.build 240 #[(0, (Value.int .i64 a0)), (1, (Value.int .i64 a1))])) (.agg #[(Value.int .i64 a0), (Value.int .i64 a1)]) := Pu.ok fun w => by kernel_rfl
theorem f1h (d : Nat) (a0 b0 : Int) (a1 b1 : Int) (w : World) : (Op.equalIn (d + 2) 240 (.agg #[(Value.int .i64 a0), (Value.int .i64 a1)]) (.agg #[(Value.int .i64 b0), (Value.int .i64 b1)])).run Tryz.prog w = .ok (decide (a0 = b0 ∧ a1 = b1)) w := by
  have u3 := Tryz.underlying3
  have i3 := Tryz.isAgg3
  have s3 := Tryz.sizeOf3
  have hS : Tryz.prog.underlying 240 = some (.struct (Tryz.prog.fieldsOf 240)) := by kernel_rfl
  rw [run_equalIn_agg w (d + 1) 240 _ _ hS (by kernel_rfl)]
  simp only [Program.fieldsOf, Tryz.underlying240]
  go_simp
  try simp only [c2v]
  by_cases h0 : a0 = b0
  · by_cases h1 : a1 = b1
    · simp [h0, h1]
    · simp [h0, h1]
  · simp [h0]
theorem a9L (x y : Operand) (a0 b0 : Int) (a1 b1 : Int) : Pu Tryz.prog (xBin .eql 240 x y (.agg #[(Value.int .i64 a0), (Value.int .i64 a1)]) (.agg #[(Value.int .i64 b0), (Value.int .i64 b1)])) (.bool (decide (a0 = b0 ∧ a1 = b1))) := by
  refine Pu.ok (s := do eqGuard .eql 240 x y (.agg #[(Value.int .i64 a0), (Value.int .i64 a1)]) (.agg #[(Value.int .i64 b0), (Value.int .i64 b1)]); binOp .eql 240 (.agg #[(Value.int .i64 a0), (Value.int .i64 a1)]) (.agg #[(Value.int .i64 b0), (Value.int .i64 b1)])) fun w => ?_
  rw [Sem.run_bind, run_eqGuard_agg w _ _ _ _ _ _ (by kernel_rfl), Result.andThen_ok, run_eql_struct, show (10000 : Nat) = 9998 + 2 from rfl, f1h]
  rfl
theorem d7d  : Pu Tryz.prog (xV (Instr.build 240 #[])) (.agg #[(Value.int .i64 0), (Value.int .i64 0)]) := Pu.ok fun w => by kernel_rfl
theorem e5e (a0a : Option Addr) (a0n a0c : Nat) (a1a : Option Addr) (a1n a1c : Nat) (a2a : Option Addr) (a2n a2c : Nat) (a3a : Option Addr) (a3n a3c : Nat) (w : World) : (Instr.buildSlice 179 4 #[(0, (Value.slice a0a a0n a0c)), (1, (Value.slice a1a a1n a1c)), (2, (Value.slice a2a a2n a2c)), (3, (Value.slice a3a a3n a3c))]).run Tryz.prog w = .ok (.slice (some ⟨w.heap.size, 0, none⟩) 4 4) (w.alloc (.cells [(Value.slice a0a a0n a0c), (Value.slice a1a a1n a1c), (Value.slice a2a a2n a2c), (Value.slice a3a a3n a3c)].toArray 137)) := by kernel_rfl
abbrev p8 (x : r7) : List Value := [(Value.slice x.a0C.a x.a0C.n x.a0C.c), (Value.slice x.a5H.a x.a5H.n x.a5H.c)]
abbrev o3 (x : t8) : List Value := [(Value.int .i64 x.P0), (Value.int .i64 x.V1), (Value.int .i64 x.W5), (Value.slice x.G5.a x.G5.n x.G5.c), (Value.slice x.a4J.a x.a4J.n x.a4J.c), (Value.slice x.L5.a x.L5.n x.L5.c)]
abbrev a8h (x : l9) : List Value := [(Value.int .i64 x.fnodes), (Value.int .i64 x.fdepth), (Value.int .i64 x.fe), (Value.bool x.fform), (Value.bool x.fnamed), (Value.slice x.fnames.a x.fnames.n x.fnames.c)]
end Go.Proofs.YtnhkdkcgdcgmdaaGreatDoor
