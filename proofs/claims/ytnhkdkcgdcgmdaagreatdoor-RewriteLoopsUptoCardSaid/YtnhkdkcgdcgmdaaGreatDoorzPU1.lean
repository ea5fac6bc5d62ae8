/- Single operations at this program's types, and its structures; printed by lift.py. -/
import Derived.Test.YtnhkdkcgdcgmdaaGreatDoorProg
import Derived.Test.YtnhkdkcgdcgmdaaGreatDoorzPS5
import Derived.KernelRfl
import Derived.Laws.StructEq
import Derived.Laws.Tables
import Derived.Laws.Cover2
namespace Go.Proofs.YtnhkdkcgdcgmdaaGreatDoor
open Go.RowKit
set_option maxRecDepth 100000
set_option maxHeartbeats 2000000
structure o9 where
  a3s : Sl
  a5w : Sl
structure y8 where
  a0T : Int
  a3t : Int
  a3u : Int
  N2 : Sl
  b1Q : Sl
  P8 : Sl
structure b6 where
  a8 : Int
  o2 : Int
  b8 : ByteArray
  o0 : Sl
structure b9 where
  a8 : Int
  fOp : Int
  f2 : Sl
  r7 : Sl
structure d4j where
  fn : Int
  fleft : Int
structure p5 where
  b8 : ByteArray
  Q3 : Int
structure d7 where
  a8 : Int
  b8 : ByteArray
  f2 : Sl
  j7 : Sl
  E5 : Sl
  B5 : Sl
structure e7R where
  fscript : Sl
  fleft : Int
  fended : Bool
  fout : Bool
  fo : y8
  fnames : Sl
  flists : Sl
  ftaken : Int
structure a3Y where
  b8H : Bool
  o2 : Int
  c3B : Bool
structure j9 where
  fnodes : Int
  fdepth : Int
  fe : Int
  fform : Bool
  fnamed : Bool
  fnames : Sl
structure c1X where
  fn : Int
  fdepth : Int
  fbad : Int
structure c1Y where
  fok : Bool
  fnames : Bool
structure j8 where
  fl : Sl
structure g8 where
  fname : ByteArray
  fas : Int
structure c3C where
  b8 : ByteArray
  d5w : Bool
structure L5 where
  r6 : b6
structure O3 where
  p9 : b9
structure h2w where
  fleft : Int
  fsteps : Int
  fscript : Sl
  fevents : Sl
  fvars : (Option Nat)
  farrays : (Option Nat)
structure V1 where
  V2 : p5
structure R5 where
  i6 : d7
structure a4w where
  f0 : Int
  f1 : Int
structure N1 where
  fexprs : Int
  fparts : Int
structure S2 where
  fexprs : Int
  fconds : Int
inductive d9 where
  | nil
  | J9 (x : L5)
  | N6 (x : O3)
  | O7 (x : V1)
  | M6 (x : R5)
def C3 : d9 → Value
  | .nil => .nilIface
  | .J9 x => .iface 136 (.agg #[(Value.int .i64 x.r6.a8), (Value.int .i64 x.r6.o2), (Value.string x.r6.b8), (Value.slice x.r6.o0.a x.r6.o0.n x.r6.o0.c)])
  | .N6 x => .iface 143 (.agg #[(Value.int .i64 x.p9.a8), (Value.int .i64 x.p9.fOp), (Value.slice x.p9.f2.a x.p9.f2.n x.p9.f2.c), (Value.slice x.p9.r7.a x.p9.r7.n x.p9.r7.c)])
  | .O7 x => .iface 182 (.agg #[(Value.string x.V2.b8), (Value.int .i64 x.V2.Q3)])
  | .M6 x => .iface 184 (.agg #[(Value.int .i64 x.i6.a8), (Value.string x.i6.b8), (Value.slice x.i6.f2.a x.i6.f2.n x.i6.f2.c), (Value.slice x.i6.j7.a x.i6.j7.n x.i6.j7.c), (Value.slice x.i6.E5.a x.i6.E5.n x.i6.E5.c), (Value.slice x.i6.B5.a x.i6.B5.n x.i6.B5.c)])
theorem c7q (x : d9) : [C3 x].all (·.oneCell') = true := by cases x <;> rfl
def d9.v7 : d9 → L5
  | .J9 x => x
  | _ => (L5.mk (b6.mk 0 0 ⟨#[]⟩ (Sl.mk none 0 0)))
def d9.a7L : d9 → Bool
  | .J9 _ => true
  | _ => false
def d9.Z0 : d9 → V1
  | .O7 x => x
  | _ => (V1.mk (p5.mk ⟨#[]⟩ 0))
def d9.a7M : d9 → Bool
  | .O7 _ => true
  | _ => false
def d9.o3 : d9 → R5
  | .M6 x => x
  | _ => (R5.mk (d7.mk 0 ⟨#[]⟩ (Sl.mk none 0 0) (Sl.mk none 0 0) (Sl.mk none 0 0) (Sl.mk none 0 0)))
def d9.a7N : d9 → Bool
  | .M6 _ => true
  | _ => false
theorem a7O {g o : Nat} : Pu Tryz.prog (xV (Instr.fieldAt 25 (.pointer (some ⟨g, o, none⟩)) 0)) (.pointer (some ⟨g, o + 0, none⟩)) := Pu.ok fun w => by kernel_rfl
theorem b4n (a : Option Addr) (n c : Nat) : Pu Tryz.prog (xBuiltin .len #[22] 3 [false] [.slice a n c]) (.int .i64 (n : Int)) := a0w Tryz.underlying22 a n c
theorem a9o {g o : Nat} : Pu Tryz.prog (xV (Instr.fieldAt 25 (.pointer (some ⟨g, o, none⟩)) 1)) (.pointer (some ⟨g, o + 1, none⟩)) := Pu.ok fun w => by kernel_rfl
theorem a6c (a : Option Addr) (n c : Nat) : Pu Tryz.prog (xBuiltin .len #[23] 3 [false] [.slice a n c]) (.int .i64 (n : Int)) := a0w Tryz.underlying23 a n c
abbrev c1Z (x : Int) : List Value := [(Value.int .i64 x)]
theorem e7S : Tryz.prog.info? 2 = some ((Tryz.prog.info? 2).getD default) := by kernel_rfl
theorem d9A {E : Pan} {w0 w : World} {ps : Nat → Prop} {H0 H : Hp} {Fs : List Frag} {K : Value → World → Prop} {s : Sl} {xs : List Int} {F : Frag} {t2 : Sl} {ys : List Int} {ks : List Bool} {ty : TypeId} (I : Inv w0 ps H0 H (F :: Fs) w) (hr : RowL 2 1 c1Z s xs F) (hs : SrcO w c1Z t2 ys) (hb : (xs.length + ys.length) * 9 ≤ 140737488355328) (h : ∀ (s' : Sl) (F' : Frag) (w' : World), RowL 2 1 c1Z s' (xs ++ ys) F' → Inv w0 ps H0 H (F' :: Fs) w' → (∀ k, k < w.heap.size → (∀ p ∈ F, p.1 ≠ k) → w'.heap[k]? = w.heap[k]?) → K (.slice s'.a s'.n s'.c) w') : opK Tryz.prog E (xBuiltin .append #[37, 37] ty ks [.slice s.a s.n s.c, .slice t2.a t2.n t2.c]) w K :=
  b0O (bytes := 8) Tryz.underlying37 e7S (z := (Value.int .i64 0)) (by kernel_rfl) (by kernel_rfl) (by kernel_rfl) (by kernel_rfl) I hr hs hb h
theorem b1R {g o : Nat} : Pu Tryz.prog (xV (Instr.fieldAt 42 (.pointer (some ⟨g, o, none⟩)) 4)) (.pointer (some ⟨g, o + 4, none⟩)) := Pu.ok fun w => by kernel_rfl
theorem a7n (a : Option Addr) (n c : Nat) : Pu Tryz.prog (xBuiltin .len #[37] 3 [false] [.slice a n c]) (.int .i64 (n : Int)) := a0w Tryz.underlying37 a n c
theorem a0o {a : Option Addr} {g o : Nat} (ha : a = some ⟨g, o, none⟩) (len cap : Nat) (k : IntKind) (i : Int) (h0 : 0 ≤ i) (h1 : i < len) : Pu Tryz.prog (xV (Instr.indexAt 37 (.slice a len cap) (.int k i))) (.pointer (some ⟨g, o + i.toNat * 1, none⟩)) := a1w Tryz.underlying37 Tryz.sizeOf2 ha len cap k i h0 h1
theorem c3D {g o : Nat} : Pu Tryz.prog (xV (Instr.fieldAt 42 (.pointer (some ⟨g, o, none⟩)) 0)) (.pointer (some ⟨g, o + 0, none⟩)) := Pu.ok fun w => by kernel_rfl
theorem c3E {g o : Nat} : Pu Tryz.prog (xV (Instr.fieldAt 42 (.pointer (some ⟨g, o, none⟩)) 2)) (.pointer (some ⟨g, o + 2, none⟩)) := Pu.ok fun w => by kernel_rfl
abbrev b7 (x : b6) : List Value := [(Value.int .i64 x.a8), (Value.int .i64 x.o2), (Value.string x.b8), (Value.slice x.o0.a x.o0.n x.o0.c)]
theorem a1X (x : b6) : (b7 x).length = 4 := rfl
theorem a1Y (x : b6) : (b7 x).all (·.oneCell') = true := rfl
theorem c5t (a1z : Int) (a1A : Int) (b2E : ByteArray) (a0_3a : Option Addr) (a0_3n a0_3c : Nat) (f6c : Int) (f6d : Int) (f6e : ByteArray) (a1_3a : Option Addr) (a1_3n a1_3c : Nat) (w : World) : (Instr.buildSlice 51 2 #[(0, (Value.agg #[(Value.int .i64 a1z), (Value.int .i64 a1A), (Value.string b2E), (Value.slice a0_3a a0_3n a0_3c)])), (1, (Value.agg #[(Value.int .i64 f6c), (Value.int .i64 f6d), (Value.string f6e), (Value.slice a1_3a a1_3n a1_3c)]))]).run Tryz.prog w = .ok (.slice (some ⟨w.heap.size, 0, none⟩) 2 2) (w.alloc (.cells [(Value.int .i64 a1z), (Value.int .i64 a1A), (Value.string b2E), (Value.slice a0_3a a0_3n a0_3c), (Value.int .i64 f6c), (Value.int .i64 f6d), (Value.string f6e), (Value.slice a1_3a a1_3n a1_3c)].toArray 53)) := by kernel_rfl
theorem b1t (a0 : Int) (a3a : Option Addr) (a3n a3c : Nat) : Pu Tryz.prog (xV (Instr.build 53 #[(0, (Value.int .i64 a0)), (3, (Value.slice a3a a3n a3c))])) (.agg #[(Value.int .i64 a0), (Value.int .i64 0), (Value.string ⟨#[]⟩), (Value.slice a3a a3n a3c)]) := Pu.ok fun w => by kernel_rfl
theorem c7r (a0 : Int) (a2 : ByteArray) : Pu Tryz.prog (xV (Instr.build 53 #[(0, (Value.int .i64 a0)), (2, (Value.string a2))])) (.agg #[(Value.int .i64 a0), (Value.int .i64 0), (Value.string a2), (Value.slice none 0 0)]) := Pu.ok fun w => by kernel_rfl
theorem c3F (a0 : Int) (a1 : Int) (a2a : Option Addr) (a2n a2c : Nat) : Pu Tryz.prog (xV (Instr.build 59 #[(0, (Value.int .i64 a0)), (1, (Value.int .i64 a1)), (2, (Value.slice a2a a2n a2c))])) (.agg #[(Value.int .i64 a0), (Value.int .i64 a1), (Value.slice a2a a2n a2c), (Value.slice none 0 0)]) := Pu.ok fun w => by kernel_rfl
theorem Q4 {g o : Nat} : Pu Tryz.prog (xV (Instr.fieldAt 53 (.pointer (some ⟨g, o, none⟩)) 0)) (.pointer (some ⟨g, o + 0, none⟩)) := Pu.ok fun w => by kernel_rfl
theorem K4 {g o : Nat} : Pu Tryz.prog (xV (Instr.fieldAt 53 (.pointer (some ⟨g, o, none⟩)) 3)) (.pointer (some ⟨g, o + 3, none⟩)) := Pu.ok fun w => by kernel_rfl
theorem a1Z (a : Option Addr) (n c : Nat) : Pu Tryz.prog (xBuiltin .len #[51] 3 [false] [.slice a n c]) (.int .i64 (n : Int)) := a0w Tryz.underlying51 a n c
theorem M1 {a : Option Addr} {g o : Nat} (ha : a = some ⟨g, o, none⟩) (len cap : Nat) (k : IntKind) (i : Int) (h0 : 0 ≤ i) (h1 : i < len) : Pu Tryz.prog (xV (Instr.indexAt 51 (.slice a len cap) (.int k i))) (.pointer (some ⟨g, o + i.toNat * 4, none⟩)) := a1w Tryz.underlying51 Tryz.sizeOf53 ha len cap k i h0 h1
theorem a6g {g o : Nat} : Pu Tryz.prog (xV (Instr.fieldAt 53 (.pointer (some ⟨g, o, none⟩)) 1)) (.pointer (some ⟨g, o + 1, none⟩)) := Pu.ok fun w => by kernel_rfl
theorem a2U {g o : Nat} : Pu Tryz.prog (xV (Instr.fieldAt 59 (.pointer (some ⟨g, o, none⟩)) 0)) (.pointer (some ⟨g, o + 0, none⟩)) := Pu.ok fun w => by kernel_rfl
theorem b8I  : Pu Tryz.prog (xV (Instr.build 25 #[])) (.agg #[(Value.slice none 0 0), (Value.slice none 0 0)]) := Pu.ok fun w => by kernel_rfl
theorem b8n (a0a : Option Addr) (a0n a0c : Nat) (a1a : Option Addr) (a1n a1c : Nat) : Pu Tryz.prog (xV (Instr.build 25 #[(0, (Value.slice a0a a0n a0c)), (1, (Value.slice a1a a1n a1c))])) (.agg #[(Value.slice a0a a0n a0c), (Value.slice a1a a1n a1c)]) := Pu.ok fun w => by kernel_rfl
abbrev p8 (x : p5) : List Value := [(Value.string x.b8), (Value.int .i64 x.Q3)]
theorem b8o (x : p5) : (p8 x).length = 2 := rfl
theorem c7s (x : p5) : (p8 x).all (·.oneCell') = true := rfl
theorem f6f : Tryz.prog.info? 71 = some ((Tryz.prog.info? 71).getD default) := by kernel_rfl
theorem f6g {E : Pan} {w0 w : World} {ps : Nat → Prop} {H0 H : Hp} {Fs : List Frag} {K : Value → World → Prop} {s : Sl} {xs : List p5} {F : Frag} {t2 : Sl} {ys : List p5} {ks : List Bool} {ty : TypeId} (I : Inv w0 ps H0 H (F :: Fs) w) (hr : RowL 71 2 p8 s xs F) (hs : SrcO w p8 t2 ys) (hb : (xs.length + ys.length) * 25 ≤ 140737488355328) (h : ∀ (s' : Sl) (F' : Frag) (w' : World), RowL 71 2 p8 s' (xs ++ ys) F' → Inv w0 ps H0 H (F' :: Fs) w' → (∀ k, k < w.heap.size → (∀ p ∈ F, p.1 ≠ k) → w'.heap[k]? = w.heap[k]?) → K (.slice s'.a s'.n s'.c) w') : opK Tryz.prog E (xBuiltin .append #[22, 22] ty ks [.slice s.a s.n s.c, .slice t2.a t2.n t2.c]) w K :=
  b0O (bytes := 24) Tryz.underlying22 f6f (z := (Value.agg #[(Value.string ⟨#[]⟩), (Value.int .i64 0)])) (by kernel_rfl) (by kernel_rfl) (by kernel_rfl) (by kernel_rfl) I hr hs hb h
abbrev g7 (x : d7) : List Value := [(Value.int .i64 x.a8), (Value.string x.b8), (Value.slice x.f2.a x.f2.n x.f2.c), (Value.slice x.j7.a x.j7.n x.j7.c), (Value.slice x.E5.a x.E5.n x.E5.c), (Value.slice x.B5.a x.B5.n x.B5.c)]
theorem V8 (x : d7) : (g7 x).length = 6 := rfl
theorem a0F (x : d7) : (g7 x).all (·.oneCell') = true := rfl
theorem b2F {a : Option Addr} {g o : Nat} (ha : a = some ⟨g, o, none⟩) (len cap : Nat) (k : IntKind) (i : Int) (h0 : 0 ≤ i) (h1 : i < len) : Pu Tryz.prog (xV (Instr.indexAt 23 (.slice a len cap) (.int k i))) (.pointer (some ⟨g, o + i.toNat * 6, none⟩)) := a1w Tryz.underlying23 Tryz.sizeOf73 ha len cap k i h0 h1
theorem a7P {g o : Nat} : Pu Tryz.prog (xV (Instr.fieldAt 73 (.pointer (some ⟨g, o, none⟩)) 0)) (.pointer (some ⟨g, o + 0, none⟩)) := Pu.ok fun w => by kernel_rfl
theorem a4X {g o : Nat} : Pu Tryz.prog (xV (Instr.fieldAt 73 (.pointer (some ⟨g, o, none⟩)) 1)) (.pointer (some ⟨g, o + 1, none⟩)) := Pu.ok fun w => by kernel_rfl
theorem a6h {g o : Nat} : Pu Tryz.prog (xV (Instr.fieldAt 73 (.pointer (some ⟨g, o, none⟩)) 3)) (.pointer (some ⟨g, o + 3, none⟩)) := Pu.ok fun w => by kernel_rfl
theorem a7o (a : Option Addr) (n c : Nat) : Pu Tryz.prog (xBuiltin .len #[57] 3 [false] [.slice a n c]) (.int .i64 (n : Int)) := a0w Tryz.underlying57 a n c
theorem a1B {a : Option Addr} {g o : Nat} (ha : a = some ⟨g, o, none⟩) (len cap : Nat) (k : IntKind) (i : Int) (h0 : 0 ≤ i) (h1 : i < len) : Pu Tryz.prog (xV (Instr.indexAt 57 (.slice a len cap) (.int k i))) (.pointer (some ⟨g, o + i.toNat * 4, none⟩)) := a1w Tryz.underlying57 Tryz.sizeOf59 ha len cap k i h0 h1
abbrev d5 (x : b9) : List Value := [(Value.int .i64 x.a8), (Value.int .i64 x.fOp), (Value.slice x.f2.a x.f2.n x.f2.c), (Value.slice x.r7.a x.r7.n x.r7.c)]
theorem a8z (x : b9) : (d5 x).length = 4 := rfl
theorem a8A (x : b9) : (d5 x).all (·.oneCell') = true := rfl
theorem d4k (a1z : Int) (a1A : Int) (a0_2a : Option Addr) (a0_2n a0_2c : Nat) (a0_3a : Option Addr) (a0_3n a0_3c : Nat) (w : World) : (Instr.buildSlice 57 1 #[(0, (Value.agg #[(Value.int .i64 a1z), (Value.int .i64 a1A), (Value.slice a0_2a a0_2n a0_2c), (Value.slice a0_3a a0_3n a0_3c)]))]).run Tryz.prog w = .ok (.slice (some ⟨w.heap.size, 0, none⟩) 1 1) (w.alloc (.cells [(Value.int .i64 a1z), (Value.int .i64 a1A), (Value.slice a0_2a a0_2n a0_2c), (Value.slice a0_3a a0_3n a0_3c)].toArray 59)) := by kernel_rfl
theorem f6h : Tryz.prog.info? 59 = some ((Tryz.prog.info? 59).getD default) := by kernel_rfl
theorem d9B {E : Pan} {w0 w : World} {ps : Nat → Prop} {H0 H : Hp} {Fs : List Frag} {K : Value → World → Prop} {s : Sl} {xs : List b9} {F : Frag} {t2 : Sl} {ys : List b9} {ks : List Bool} {ty : TypeId} (I : Inv w0 ps H0 H (F :: Fs) w) (hr : RowL 59 4 d5 s xs F) (hs : SrcO w d5 t2 ys) (hb : (xs.length + ys.length) * 65 ≤ 140737488355328) (h : ∀ (s' : Sl) (F' : Frag) (w' : World), RowL 59 4 d5 s' (xs ++ ys) F' → Inv w0 ps H0 H (F' :: Fs) w' → (∀ k, k < w.heap.size → (∀ p ∈ F, p.1 ≠ k) → w'.heap[k]? = w.heap[k]?) → K (.slice s'.a s'.n s'.c) w') : opK Tryz.prog E (xBuiltin .append #[57, 57] ty ks [.slice s.a s.n s.c, .slice t2.a t2.n t2.c]) w K :=
  b0O (bytes := 64) Tryz.underlying57 f6h (z := (Value.agg #[(Value.int .i64 0), (Value.int .i64 0), (Value.slice none 0 0), (Value.slice none 0 0)])) (by kernel_rfl) (by kernel_rfl) (by kernel_rfl) (by kernel_rfl) I hr hs hb h
theorem a6i {g o : Nat} : Pu Tryz.prog (xV (Instr.fieldAt 73 (.pointer (some ⟨g, o, none⟩)) 2)) (.pointer (some ⟨g, o + 2, none⟩)) := Pu.ok fun w => by kernel_rfl
theorem c5u (a1z : Int) (a1A : Int) (b2E : ByteArray) (a0_3a : Option Addr) (a0_3n a0_3c : Nat) (w : World) : (Instr.buildSlice 51 1 #[(0, (Value.agg #[(Value.int .i64 a1z), (Value.int .i64 a1A), (Value.string b2E), (Value.slice a0_3a a0_3n a0_3c)]))]).run Tryz.prog w = .ok (.slice (some ⟨w.heap.size, 0, none⟩) 1 1) (w.alloc (.cells [(Value.int .i64 a1z), (Value.int .i64 a1A), (Value.string b2E), (Value.slice a0_3a a0_3n a0_3c)].toArray 53)) := by kernel_rfl
theorem f6i : Tryz.prog.info? 53 = some ((Tryz.prog.info? 53).getD default) := by kernel_rfl
theorem d9C {E : Pan} {w0 w : World} {ps : Nat → Prop} {H0 H : Hp} {Fs : List Frag} {K : Value → World → Prop} {s : Sl} {xs : List b6} {F : Frag} {t2 : Sl} {ys : List b6} {ks : List Bool} {ty : TypeId} (I : Inv w0 ps H0 H (F :: Fs) w) (hr : RowL 53 4 b7 s xs F) (hs : SrcO w b7 t2 ys) (hb : (xs.length + ys.length) * 57 ≤ 140737488355328) (h : ∀ (s' : Sl) (F' : Frag) (w' : World), RowL 53 4 b7 s' (xs ++ ys) F' → Inv w0 ps H0 H (F' :: Fs) w' → (∀ k, k < w.heap.size → (∀ p ∈ F, p.1 ≠ k) → w'.heap[k]? = w.heap[k]?) → K (.slice s'.a s'.n s'.c) w') : opK Tryz.prog E (xBuiltin .append #[51, 51] ty ks [.slice s.a s.n s.c, .slice t2.a t2.n t2.c]) w K :=
  b0O (bytes := 56) Tryz.underlying51 f6i (z := (Value.agg #[(Value.int .i64 0), (Value.int .i64 0), (Value.string ⟨#[]⟩), (Value.slice none 0 0)])) (by kernel_rfl) (by kernel_rfl) (by kernel_rfl) (by kernel_rfl) I hr hs hb h
theorem a2V {g o : Nat} : Pu Tryz.prog (xV (Instr.fieldAt 73 (.pointer (some ⟨g, o, none⟩)) 4)) (.pointer (some ⟨g, o + 4, none⟩)) := Pu.ok fun w => by kernel_rfl
theorem a3Z {g o : Nat} : Pu Tryz.prog (xV (Instr.fieldAt 73 (.pointer (some ⟨g, o, none⟩)) 5)) (.pointer (some ⟨g, o + 5, none⟩)) := Pu.ok fun w => by kernel_rfl
theorem b5D (a1z : Int) (a1A : ByteArray) (a0_2a : Option Addr) (a0_2n a0_2c : Nat) (a0_3a : Option Addr) (a0_3n a0_3c : Nat) (a0_4a : Option Addr) (a0_4n a0_4c : Nat) (a0_5a : Option Addr) (a0_5n a0_5c : Nat) (w : World) : (Instr.buildSlice 23 1 #[(0, (Value.agg #[(Value.int .i64 a1z), (Value.string a1A), (Value.slice a0_2a a0_2n a0_2c), (Value.slice a0_3a a0_3n a0_3c), (Value.slice a0_4a a0_4n a0_4c), (Value.slice a0_5a a0_5n a0_5c)]))]).run Tryz.prog w = .ok (.slice (some ⟨w.heap.size, 0, none⟩) 1 1) (w.alloc (.cells [(Value.int .i64 a1z), (Value.string a1A), (Value.slice a0_2a a0_2n a0_2c), (Value.slice a0_3a a0_3n a0_3c), (Value.slice a0_4a a0_4n a0_4c), (Value.slice a0_5a a0_5n a0_5c)].toArray 73)) := by kernel_rfl
theorem f6j : Tryz.prog.info? 73 = some ((Tryz.prog.info? 73).getD default) := by kernel_rfl
theorem b2G {E : Pan} {w0 w : World} {ps : Nat → Prop} {H0 H : Hp} {Fs : List Frag} {K : Value → World → Prop} {s : Sl} {xs : List d7} {F : Frag} {t2 : Sl} {ys : List d7} {ks : List Bool} {ty : TypeId} (I : Inv w0 ps H0 H (F :: Fs) w) (hr : RowL 73 6 g7 s xs F) (hs : SrcO w g7 t2 ys) (hb : (xs.length + ys.length) * 121 ≤ 140737488355328) (h : ∀ (s' : Sl) (F' : Frag) (w' : World), RowL 73 6 g7 s' (xs ++ ys) F' → Inv w0 ps H0 H (F' :: Fs) w' → (∀ k, k < w.heap.size → (∀ p ∈ F, p.1 ≠ k) → w'.heap[k]? = w.heap[k]?) → K (.slice s'.a s'.n s'.c) w') : opK Tryz.prog E (xBuiltin .append #[23, 23] ty ks [.slice s.a s.n s.c, .slice t2.a t2.n t2.c]) w K :=
  b0O (bytes := 120) Tryz.underlying23 f6j (z := (Value.agg #[(Value.int .i64 0), (Value.string ⟨#[]⟩), (Value.slice none 0 0), (Value.slice none 0 0), (Value.slice none 0 0), (Value.slice none 0 0)])) (by kernel_rfl) (by kernel_rfl) (by kernel_rfl) (by kernel_rfl) I hr hs hb h
theorem b6G {a : Option Addr} {g o : Nat} (ha : a = some ⟨g, o, none⟩) (len cap : Nat) (k : IntKind) (i : Int) (h0 : 0 ≤ i) (h1 : i < len) : Pu Tryz.prog (xV (Instr.indexAt 22 (.slice a len cap) (.int k i))) (.pointer (some ⟨g, o + i.toNat * 2, none⟩)) := a1w Tryz.underlying22 Tryz.sizeOf71 ha len cap k i h0 h1
theorem b1u (a0 : Int) (a1 : Int) : Pu Tryz.prog (xV (Instr.build 53 #[(0, (Value.int .i64 a0)), (1, (Value.int .i64 a1))])) (.agg #[(Value.int .i64 a0), (Value.int .i64 a1), (Value.string ⟨#[]⟩), (Value.slice none 0 0)]) := Pu.ok fun w => by kernel_rfl
theorem a2W {g o : Nat} : Pu Tryz.prog (xV (Instr.fieldAt 71 (.pointer (some ⟨g, o, none⟩)) 0)) (.pointer (some ⟨g, o + 0, none⟩)) := Pu.ok fun w => by kernel_rfl
abbrev M0 (x : ByteArray) : List Value := [(Value.string x)]
theorem c1K (x : ByteArray) : (M0 x).length = 1 := rfl
theorem c1L (x : ByteArray) : (M0 x).all (·.oneCell') = true := rfl
theorem e9z (a0 : ByteArray) (w : World) : (Instr.buildSlice 88 1 #[(0, (Value.string a0))]).run Tryz.prog w = .ok (.slice (some ⟨w.heap.size, 0, none⟩) 1 1) (w.alloc (.cells [(Value.string a0)].toArray 9)) := by kernel_rfl
theorem h2z : Tryz.prog.info? 9 = some ((Tryz.prog.info? 9).getD default) := by kernel_rfl
theorem f6k {E : Pan} {w0 w : World} {ps : Nat → Prop} {H0 H : Hp} {Fs : List Frag} {K : Value → World → Prop} {s : Sl} {xs : List ByteArray} {F : Frag} {t2 : Sl} {ys : List ByteArray} {ks : List Bool} {ty : TypeId} (I : Inv w0 ps H0 H (F :: Fs) w) (hr : RowL 9 1 M0 s xs F) (hs : SrcO w M0 t2 ys) (hb : (xs.length + ys.length) * 17 ≤ 140737488355328) (h : ∀ (s' : Sl) (F' : Frag) (w' : World), RowL 9 1 M0 s' (xs ++ ys) F' → Inv w0 ps H0 H (F' :: Fs) w' → (∀ k, k < w.heap.size → (∀ p ∈ F, p.1 ≠ k) → w'.heap[k]? = w.heap[k]?) → K (.slice s'.a s'.n s'.c) w') : opK Tryz.prog E (xBuiltin .append #[88, 88] ty ks [.slice s.a s.n s.c, .slice t2.a t2.n t2.c]) w K :=
  b0O (bytes := 16) Tryz.underlying88 h2z (z := (Value.string ⟨#[]⟩)) (by kernel_rfl) (by kernel_rfl) (by kernel_rfl) (by kernel_rfl) I hr hs hb h
theorem a6j {g o : Nat} : Pu Tryz.prog (xV (Instr.fieldAt 42 (.pointer (some ⟨g, o, none⟩)) 5)) (.pointer (some ⟨g, o + 5, none⟩)) := Pu.ok fun w => by kernel_rfl
theorem a6k {g o : Nat} : Pu Tryz.prog (xV (Instr.fieldAt 71 (.pointer (some ⟨g, o, none⟩)) 1)) (.pointer (some ⟨g, o + 1, none⟩)) := Pu.ok fun w => by kernel_rfl
theorem a7Q {g o : Nat} : Pu Tryz.prog (xV (Instr.fieldAt 53 (.pointer (some ⟨g, o, none⟩)) 2)) (.pointer (some ⟨g, o + 2, none⟩)) := Pu.ok fun w => by kernel_rfl
theorem a9p {g o : Nat} : Pu Tryz.prog (xV (Instr.fieldAt 42 (.pointer (some ⟨g, o, none⟩)) 3)) (.pointer (some ⟨g, o + 3, none⟩)) := Pu.ok fun w => by kernel_rfl
theorem c7t (a0 : Bool) (a1 : Int) : Pu Tryz.prog (xV (Instr.build 95 #[(0, (Value.bool a0)), (1, (Value.int .i64 a1))])) (.agg #[(Value.bool a0), (Value.int .i64 a1), (Value.bool false)]) := Pu.ok fun w => by kernel_rfl
abbrev R6 (x : a3Y) : List Value := [(Value.bool x.b8H), (Value.int .i64 x.o2), (Value.bool x.c3B)]
theorem a9Z (x : a3Y) : (R6 x).length = 3 := rfl
theorem b0a (x : a3Y) : (R6 x).all (·.oneCell') = true := rfl
theorem d4l (a1z : Bool) (a1A : Int) (b2E : Bool) (w : World) : (Instr.buildSlice 39 1 #[(0, (Value.agg #[(Value.bool a1z), (Value.int .i64 a1A), (Value.bool b2E)]))]).run Tryz.prog w = .ok (.slice (some ⟨w.heap.size, 0, none⟩) 1 1) (w.alloc (.cells [(Value.bool a1z), (Value.int .i64 a1A), (Value.bool b2E)].toArray 95)) := by kernel_rfl
theorem f6l : Tryz.prog.info? 95 = some ((Tryz.prog.info? 95).getD default) := by kernel_rfl
theorem d9D {E : Pan} {w0 w : World} {ps : Nat → Prop} {H0 H : Hp} {Fs : List Frag} {K : Value → World → Prop} {s : Sl} {xs : List a3Y} {F : Frag} {t2 : Sl} {ys : List a3Y} {ks : List Bool} {ty : TypeId} (I : Inv w0 ps H0 H (F :: Fs) w) (hr : RowL 95 3 R6 s xs F) (hs : SrcO w R6 t2 ys) (hb : (xs.length + ys.length) * 25 ≤ 140737488355328) (h : ∀ (s' : Sl) (F' : Frag) (w' : World), RowL 95 3 R6 s' (xs ++ ys) F' → Inv w0 ps H0 H (F' :: Fs) w' → (∀ k, k < w.heap.size → (∀ p ∈ F, p.1 ≠ k) → w'.heap[k]? = w.heap[k]?) → K (.slice s'.a s'.n s'.c) w') : opK Tryz.prog E (xBuiltin .append #[39, 39] ty ks [.slice s.a s.n s.c, .slice t2.a t2.n t2.c]) w K :=
  b0O (bytes := 24) Tryz.underlying39 f6l (z := (Value.agg #[(Value.bool false), (Value.int .i64 0), (Value.bool false)])) (by kernel_rfl) (by kernel_rfl) (by kernel_rfl) (by kernel_rfl) I hr hs hb h
theorem c8F {a : Option Addr} {g o : Nat} (ha : a = some ⟨g, o, none⟩) (len cap : Nat) (k : IntKind) (i : Int) (h0 : 0 ≤ i) (h1 : i < len) : Pu Tryz.prog (xV (Instr.indexAt 40 (.slice a len cap) (.int k i))) (.pointer (some ⟨g, o + i.toNat * 1, none⟩)) := a1w Tryz.underlying40 Tryz.sizeOf37 ha len cap k i h0 h1
theorem c3G {g o : Nat} : Pu Tryz.prog (xV (Instr.fieldAt 42 (.pointer (some ⟨g, o, none⟩)) 1)) (.pointer (some ⟨g, o + 1, none⟩)) := Pu.ok fun w => by kernel_rfl
theorem V3 {g o : Nat} : Pu Tryz.prog (xV (Instr.fieldAt 59 (.pointer (some ⟨g, o, none⟩)) 3)) (.pointer (some ⟨g, o + 3, none⟩)) := Pu.ok fun w => by kernel_rfl
theorem a1C {g o : Nat} : Pu Tryz.prog (xV (Instr.fieldAt 59 (.pointer (some ⟨g, o, none⟩)) 2)) (.pointer (some ⟨g, o + 2, none⟩)) := Pu.ok fun w => by kernel_rfl
theorem a9q {g o : Nat} : Pu Tryz.prog (xV (Instr.fieldAt 59 (.pointer (some ⟨g, o, none⟩)) 1)) (.pointer (some ⟨g, o + 1, none⟩)) := Pu.ok fun w => by kernel_rfl
theorem b8J (a : Option Addr) (n c : Nat) : Pu Tryz.prog (xBuiltin .len #[39] 3 [false] [.slice a n c]) (.int .i64 (n : Int)) := a0w Tryz.underlying39 a n c
theorem b8K (a : Option Addr) (n c : Nat) : Pu Tryz.prog (xBuiltin .len #[40] 3 [false] [.slice a n c]) (.int .i64 (n : Int)) := a0w Tryz.underlying40 a n c
theorem c8G {a : Option Addr} {g o : Nat} (ha : a = some ⟨g, o, none⟩) (len cap : Nat) (k : IntKind) (i : Int) (h0 : 0 ≤ i) (h1 : i < len) : Pu Tryz.prog (xV (Instr.indexAt 39 (.slice a len cap) (.int k i))) (.pointer (some ⟨g, o + i.toNat * 3, none⟩)) := a1w Tryz.underlying39 Tryz.sizeOf95 ha len cap k i h0 h1
theorem f6m (d : Nat) (a0 b0 : Bool) (a1 b1 : Int) (a2 b2 : Bool) (w : World) : (Op.equalIn (d + 2) 95 (.agg #[(Value.bool a0), (Value.int .i64 a1), (Value.bool a2)]) (.agg #[(Value.bool b0), (Value.int .i64 b1), (Value.bool b2)])).run Tryz.prog w = .ok (decide (a0 = b0 ∧ a1 = b1 ∧ a2 = b2)) w := by
  have u4 := Tryz.underlying4
  have i4 := Tryz.isAgg4
  have s4 := Tryz.sizeOf4
  have u2 := Tryz.underlying2
  have i2 := Tryz.isAgg2
  have s2 := Tryz.sizeOf2
  have hS : Tryz.prog.underlying 95 = some (.struct (Tryz.prog.fieldsOf 95)) := by kernel_rfl
  rw [run_equalIn_agg w (d + 1) 95 _ _ hS (by kernel_rfl)]
  simp only [Program.fieldsOf, Tryz.underlying95]
  go_simp
  try simp only [c1V]
  by_cases h0 : a0 = b0
  · by_cases h1 : a1 = b1
    · by_cases h2 : a2 = b2
      · simp [h0, h1, h2]
      · simp [h0, h1, h2]
    · simp [h0, h1]
  · simp [h0]
theorem e3w (x y : Operand) (a0 b0 : Bool) (a1 b1 : Int) (a2 b2 : Bool) : Pu Tryz.prog (xBin .neq 95 x y (.agg #[(Value.bool a0), (Value.int .i64 a1), (Value.bool a2)]) (.agg #[(Value.bool b0), (Value.int .i64 b1), (Value.bool b2)])) (.bool (!decide (a0 = b0 ∧ a1 = b1 ∧ a2 = b2))) := by
  refine Pu.ok (s := do eqGuard .neq 95 x y (.agg #[(Value.bool a0), (Value.int .i64 a1), (Value.bool a2)]) (.agg #[(Value.bool b0), (Value.int .i64 b1), (Value.bool b2)]); binOp .neq 95 (.agg #[(Value.bool a0), (Value.int .i64 a1), (Value.bool a2)]) (.agg #[(Value.bool b0), (Value.int .i64 b1), (Value.bool b2)])) fun w => ?_
  rw [Sem.run_bind, run_eqGuard_agg w _ _ _ _ _ _ (by kernel_rfl), Result.andThen_ok, run_neq_struct, show (10000 : Nat) = 9998 + 2 from rfl, f6m]
  rfl
theorem d9E  : Pu Tryz.prog (xV (Instr.build 53 #[])) (.agg #[(Value.int .i64 0), (Value.int .i64 0), (Value.string ⟨#[]⟩), (Value.slice none 0 0)]) := Pu.ok fun w => by kernel_rfl
theorem d9F  : Pu Tryz.prog (xV (Instr.build 59 #[])) (.agg #[(Value.int .i64 0), (Value.int .i64 0), (Value.slice none 0 0), (Value.slice none 0 0)]) := Pu.ok fun w => by kernel_rfl
theorem a5m {g o : Nat} : Pu Tryz.prog (xV (Instr.fieldAt 101 (.pointer (some ⟨g, o, none⟩)) 2)) (.pointer (some ⟨g, o + 2, none⟩)) := Pu.ok fun w => by kernel_rfl
theorem c3H (a0 : Int) (a3a : Option Addr) (a3n a3c : Nat) (a4a : Option Addr) (a4n a4c : Nat) : Pu Tryz.prog (xV (Instr.build 73 #[(0, (Value.int .i64 a0)), (3, (Value.slice a3a a3n a3c)), (4, (Value.slice a4a a4n a4c))])) (.agg #[(Value.int .i64 a0), (Value.string ⟨#[]⟩), (Value.slice none 0 0), (Value.slice a3a a3n a3c), (Value.slice a4a a4n a4c), (Value.slice none 0 0)]) := Pu.ok fun w => by kernel_rfl
theorem d5x  : Pu Tryz.prog (xV (Instr.build 125 #[])) (.agg #[(Value.slice none 0 0)]) := Pu.ok fun w => by kernel_rfl
abbrev u7 (x : g8) : List Value := [(Value.string x.fname), (Value.int .i64 x.fas)]
theorem a6P (x : g8) : (u7 x).length = 2 := rfl
theorem a6Q (x : g8) : (u7 x).all (·.oneCell') = true := rfl
theorem a2X {g o : Nat} : Pu Tryz.prog (xV (Instr.fieldAt 125 (.pointer (some ⟨g, o, none⟩)) 0)) (.pointer (some ⟨g, o + 0, none⟩)) := Pu.ok fun w => by kernel_rfl
theorem a7R (a0 : ByteArray) (a1 : Int) : Pu Tryz.prog (xV (Instr.build 127 #[(0, (Value.string a0)), (1, (Value.int .i64 a1))])) (.agg #[(Value.string a0), (Value.int .i64 a1)]) := Pu.ok fun w => by kernel_rfl
theorem b6H (a1z : ByteArray) (a1A : Int) (w : World) : (Instr.buildSlice 123 1 #[(0, (Value.agg #[(Value.string a1z), (Value.int .i64 a1A)]))]).run Tryz.prog w = .ok (.slice (some ⟨w.heap.size, 0, none⟩) 1 1) (w.alloc (.cells [(Value.string a1z), (Value.int .i64 a1A)].toArray 127)) := by kernel_rfl
theorem e9A : Tryz.prog.info? 127 = some ((Tryz.prog.info? 127).getD default) := by kernel_rfl
theorem c0G {E : Pan} {w0 w : World} {ps : Nat → Prop} {H0 H : Hp} {Fs : List Frag} {K : Value → World → Prop} {s : Sl} {xs : List g8} {F : Frag} {t2 : Sl} {ys : List g8} {ks : List Bool} {ty : TypeId} (I : Inv w0 ps H0 H (F :: Fs) w) (hr : RowL 127 2 u7 s xs F) (hs : SrcO w u7 t2 ys) (hb : (xs.length + ys.length) * 25 ≤ 140737488355328) (h : ∀ (s' : Sl) (F' : Frag) (w' : World), RowL 127 2 u7 s' (xs ++ ys) F' → Inv w0 ps H0 H (F' :: Fs) w' → (∀ k, k < w.heap.size → (∀ p ∈ F, p.1 ≠ k) → w'.heap[k]? = w.heap[k]?) → K (.slice s'.a s'.n s'.c) w') : opK Tryz.prog E (xBuiltin .append #[123, 123] ty ks [.slice s.a s.n s.c, .slice t2.a t2.n t2.c]) w K :=
  b0O (bytes := 24) Tryz.underlying123 e9A (z := (Value.agg #[(Value.string ⟨#[]⟩), (Value.int .i64 0)])) (by kernel_rfl) (by kernel_rfl) (by kernel_rfl) (by kernel_rfl) I hr hs hb h
theorem d9G {a : Option Addr} {g o : Nat} (ha : a = some ⟨g, o, none⟩) (len cap : Nat) (k : IntKind) (i : Int) (h0 : 0 ≤ i) (h1 : i < len) : Pu Tryz.prog (xV (Instr.indexAt 123 (.slice a len cap) (.int k i))) (.pointer (some ⟨g, o + i.toNat * 2, none⟩)) := a1w Tryz.underlying123 Tryz.sizeOf127 ha len cap k i h0 h1
theorem b4M {g o : Nat} : Pu Tryz.prog (xV (Instr.fieldAt 127 (.pointer (some ⟨g, o, none⟩)) 0)) (.pointer (some ⟨g, o + 0, none⟩)) := Pu.ok fun w => by kernel_rfl
theorem d3P {g o : Nat} : Pu Tryz.prog (xV (Instr.fieldAt 127 (.pointer (some ⟨g, o, none⟩)) 1)) (.pointer (some ⟨g, o + 1, none⟩)) := Pu.ok fun w => by kernel_rfl
theorem e3x (x y : Operand) (a b : Bool) : Pu Tryz.prog (xBin .eql 4 x y (.bool a) (.bool b)) (.bool (a == b)) := f5T _ _ _ a b Tryz.underlying4
theorem b6I (x y : Operand) (a b : Bool) : Pu Tryz.prog (xBin .neq 4 x y (.bool a) (.bool b)) (.bool (a != b)) := f5U _ _ _ a b Tryz.underlying4
theorem b8L (a1z : Int) (a1A : Int) (b2E : ByteArray) (a0_3a : Option Addr) (a0_3n a0_3c : Nat) : Pu Tryz.prog (xV (Instr.build 136 #[(0, (Value.agg #[(Value.int .i64 a1z), (Value.int .i64 a1A), (Value.string b2E), (Value.slice a0_3a a0_3n a0_3c)]))])) (.agg #[(Value.int .i64 a1z), (Value.int .i64 a1A), (Value.string b2E), (Value.slice a0_3a a0_3n a0_3c)]) := Pu.ok fun w => by kernel_rfl
theorem b0b (x : L5) : Pu Tryz.prog (xV (Instr.makeInterface 136 (.agg #[(Value.int .i64 x.r6.a8), (Value.int .i64 x.r6.o2), (Value.string x.r6.b8), (Value.slice x.r6.o0.a x.r6.o0.n x.r6.o0.c)]))) (C3 (d9.J9 x)) := Pu.ok fun w => rfl
abbrev s8 (x : d9) : List Value := [(C3 x)]
theorem P9 (x : d9) : (s8 x).length = 1 := rfl
theorem Q9 (x : d9) : (s8 x).all (·.oneCell') = true := c7q x
theorem b0c (a0 : d9) (w : World) : (Instr.buildSlice 137 1 #[(0, (C3 a0))]).run Tryz.prog w = .ok (.slice (some ⟨w.heap.size, 0, none⟩) 1 1) (w.alloc (.cells [(C3 a0)].toArray 150)) := by cases a0 <;> kernel_rfl
theorem b8M (a1z : Int) (a1A : Int) (a0_2a : Option Addr) (a0_2n a0_2c : Nat) (a0_3a : Option Addr) (a0_3n a0_3c : Nat) : Pu Tryz.prog (xV (Instr.build 143 #[(0, (Value.agg #[(Value.int .i64 a1z), (Value.int .i64 a1A), (Value.slice a0_2a a0_2n a0_2c), (Value.slice a0_3a a0_3n a0_3c)]))])) (.agg #[(Value.int .i64 a1z), (Value.int .i64 a1A), (Value.slice a0_2a a0_2n a0_2c), (Value.slice a0_3a a0_3n a0_3c)]) := Pu.ok fun w => by kernel_rfl
theorem b5E (x : O3) : Pu Tryz.prog (xV (Instr.makeInterface 143 (.agg #[(Value.int .i64 x.p9.a8), (Value.int .i64 x.p9.fOp), (Value.slice x.p9.f2.a x.p9.f2.n x.p9.f2.c), (Value.slice x.p9.r7.a x.p9.r7.n x.p9.r7.c)]))) (C3 (d9.N6 x)) := Pu.ok fun w => rfl
theorem c8H (a0a : Option Addr) (a0n a0c : Nat) (a1a : Option Addr) (a1n a1c : Nat) (w : World) : (Instr.buildSlice 179 2 #[(0, (Value.slice a0a a0n a0c)), (1, (Value.slice a1a a1n a1c))]).run Tryz.prog w = .ok (.slice (some ⟨w.heap.size, 0, none⟩) 2 2) (w.alloc (.cells [(Value.slice a0a a0n a0c), (Value.slice a1a a1n a1c)].toArray 137)) := by kernel_rfl
theorem d3Q (x y : Operand) (s : Sl) : Pu Tryz.prog (xBin .eql 22 x y (vs s) (.slice none 0 0)) (.bool s.a.isNone) := d9y _ _ _ s Tryz.underlying22
theorem e9B  (w : World) : (Instr.buildSlice 22 0 #[]).run Tryz.prog w = .ok (.slice (some ⟨w.heap.size, 0, none⟩) 0 0) (w.alloc (.cells [].toArray 71)) := by kernel_rfl
theorem b1S {g o : Nat} : Pu Tryz.prog (xV (Instr.fieldAt 80 (.pointer (some ⟨g, o, none⟩)) 4)) (.pointer (some ⟨g, o + 4, none⟩)) := Pu.ok fun w => by kernel_rfl
theorem b6J {g o : Nat} : Pu Tryz.prog (xV (Instr.fieldAt 80 (.pointer (some ⟨g, o, none⟩)) 0)) (.pointer (some ⟨g, o + 0, none⟩)) := Pu.ok fun w => by kernel_rfl
theorem c7u (a0 : Int) (a1 : Int) : Pu Tryz.prog (xV (Instr.build 83 #[(0, (Value.int .i64 a0)), (1, (Value.int .i64 a1))])) (.agg #[(Value.int .i64 a0), (Value.int .i64 a1)]) := Pu.ok fun w => by kernel_rfl
theorem b6K {g o : Nat} : Pu Tryz.prog (xV (Instr.fieldAt 80 (.pointer (some ⟨g, o, none⟩)) 1)) (.pointer (some ⟨g, o + 1, none⟩)) := Pu.ok fun w => by kernel_rfl
theorem d5y  : Pu Tryz.prog (xV (Instr.build 101 #[])) (.agg #[(Value.int .i64 0), (Value.int .i64 0), (Value.int .i64 0), (Value.bool false), (Value.bool false), (Value.slice none 0 0)]) := Pu.ok fun w => by kernel_rfl
theorem b1T (a : Option Addr) (n c : Nat) : Pu Tryz.prog (xBuiltin .len #[137] 3 [false] [.slice a n c]) (.int .i64 (n : Int)) := a0w Tryz.underlying137 a n c
theorem d9H {a : Option Addr} {g o : Nat} (ha : a = some ⟨g, o, none⟩) (len cap : Nat) (k : IntKind) (i : Int) (h0 : 0 ≤ i) (h1 : i < len) : Pu Tryz.prog (xV (Instr.indexAt 137 (.slice a len cap) (.int k i))) (.pointer (some ⟨g, o + i.toNat * 1, none⟩)) := a1w Tryz.underlying137 Tryz.sizeOf150 ha len cap k i h0 h1
theorem b4N {g o : Nat} : Pu Tryz.prog (xV (Instr.fieldAt 101 (.pointer (some ⟨g, o, none⟩)) 0)) (.pointer (some ⟨g, o + 0, none⟩)) := Pu.ok fun w => by kernel_rfl
theorem c1M {g o : Nat} : Pu Tryz.prog (xV (Instr.fieldAt 101 (.pointer (some ⟨g, o, none⟩)) 1)) (.pointer (some ⟨g, o + 1, none⟩)) := Pu.ok fun w => by kernel_rfl
theorem b4O {g o : Nat} : Pu Tryz.prog (xV (Instr.fieldAt 101 (.pointer (some ⟨g, o, none⟩)) 3)) (.pointer (some ⟨g, o + 3, none⟩)) := Pu.ok fun w => by kernel_rfl
theorem b4P {g o : Nat} : Pu Tryz.prog (xV (Instr.fieldAt 101 (.pointer (some ⟨g, o, none⟩)) 4)) (.pointer (some ⟨g, o + 4, none⟩)) := Pu.ok fun w => by kernel_rfl
theorem b4Q {g o : Nat} : Pu Tryz.prog (xV (Instr.fieldAt 101 (.pointer (some ⟨g, o, none⟩)) 5)) (.pointer (some ⟨g, o + 5, none⟩)) := Pu.ok fun w => by kernel_rfl
theorem a0G {g o : Nat} (k : IntKind) (i : Int) (h0 : 0 ≤ i) (h1 : i < 2) : Pu Tryz.prog (xV (Instr.indexAt 173 (.pointer (some ⟨g, o, none⟩)) (.int k i))) (.pointer (some ⟨g, o + i.toNat * 1, none⟩)) := d3N Tryz.underlying173 Tryz.sizeOf2 k i h0 h1
theorem c1N (a0 : Int) : Pu Tryz.prog (xV (Instr.build 59 #[(0, (Value.int .i64 a0))])) (.agg #[(Value.int .i64 a0), (Value.int .i64 0), (Value.slice none 0 0), (Value.slice none 0 0)]) := Pu.ok fun w => by kernel_rfl
theorem a6U : Pu Tryz.prog (xV (Instr.build 177 #[(0, (Value.func (.func 149) #[] #[])), (1, (Value.func (.func 150) #[] #[])), (2, (Value.func (.func 151) #[] #[])), (3, (Value.func (.func 152) #[] #[])), (4, (Value.func (.func 153) #[] #[])), (5, (Value.func (.func 154) #[] #[])), (6, (Value.func (.func 155) #[] #[]))])) (.agg #[(Value.func (.func 149) #[] #[]), (Value.func (.func 150) #[] #[]), (Value.func (.func 151) #[] #[]), (Value.func (.func 152) #[] #[]), (Value.func (.func 153) #[] #[]), (Value.func (.func 154) #[] #[]), (Value.func (.func 155) #[] #[])]) := Pu.ok fun w => by kernel_rfl
theorem Y9 (k : IntKind) (i : Int) (h0 : 0 ≤ i) (h1 : i < 7) : Pu Tryz.prog (xV (Instr.index 177 (.agg #[(Value.func (.func 149) #[] #[]), (Value.func (.func 150) #[] #[]), (Value.func (.func 151) #[] #[]), (Value.func (.func 152) #[] #[]), (Value.func (.func 153) #[] #[]), (Value.func (.func 154) #[] #[]), (Value.func (.func 155) #[] #[])]) (.int k i))) (([(Value.func (.func 149) #[] #[]), (Value.func (.func 150) #[] #[]), (Value.func (.func 151) #[] #[]), (Value.func (.func 152) #[] #[]), (Value.func (.func 153) #[] #[]), (Value.func (.func 154) #[] #[]), (Value.func (.func 155) #[] #[])] : List Value).getD i.toNat undef) := by
  obtain rfl | rfl | rfl | rfl | rfl | rfl | rfl := (by omega : i = 0 ∨ i = 1 ∨ i = 2 ∨ i = 3 ∨ i = 4 ∨ i = 5 ∨ i = 6)
  · exact Pu.ok fun w => by kernel_rfl
  · exact Pu.ok fun w => by kernel_rfl
  · exact Pu.ok fun w => by kernel_rfl
  · exact Pu.ok fun w => by kernel_rfl
  · exact Pu.ok fun w => by kernel_rfl
  · exact Pu.ok fun w => by kernel_rfl
  · exact Pu.ok fun w => by kernel_rfl
theorem c3I (a : Option Addr) (n c : Nat) : Pu Tryz.prog (xBuiltin .len #[179] 3 [false] [.slice a n c]) (.int .i64 (n : Int)) := a0w Tryz.underlying179 a n c
theorem c6T {a : Option Addr} {g o : Nat} (ha : a = some ⟨g, o, none⟩) (len cap : Nat) (k : IntKind) (i : Int) (h0 : 0 ≤ i) (h1 : i < len) : Pu Tryz.prog (xV (Instr.indexAt 179 (.slice a len cap) (.int k i))) (.pointer (some ⟨g, o + i.toNat * 1, none⟩)) := a1w Tryz.underlying179 Tryz.sizeOf137 ha len cap k i h0 h1
theorem d9I (s : ByteArray) : Pu Tryz.prog (xV (Instr.makeInterface 9 (.string s))) (.iface 9 (.string s)) := Pu.ok fun w => by kernel_rfl
theorem d4m : Tryz.prog.info? 150 = some ((Tryz.prog.info? 150).getD default) := by kernel_rfl
theorem b5F {E : Pan} {w0 w : World} {ps : Nat → Prop} {H0 H : Hp} {Fs : List Frag} {K : Value → World → Prop} {s : Sl} {xs : List d9} {F : Frag} {t2 : Sl} {ys : List d9} {ks : List Bool} {ty : TypeId} (I : Inv w0 ps H0 H (F :: Fs) w) (hr : RowL 150 1 s8 s xs F) (hs : SrcO w s8 t2 ys) (hb : (xs.length + ys.length) * 17 ≤ 140737488355328) (h : ∀ (s' : Sl) (F' : Frag) (w' : World), RowL 150 1 s8 s' (xs ++ ys) F' → Inv w0 ps H0 H (F' :: Fs) w' → (∀ k, k < w.heap.size → (∀ p ∈ F, p.1 ≠ k) → w'.heap[k]? = w.heap[k]?) → K (.slice s'.a s'.n s'.c) w') : opK Tryz.prog E (xBuiltin .append #[137, 137] ty ks [.slice s.a s.n s.c, .slice t2.a t2.n t2.c]) w K :=
  b0O (bytes := 16) Tryz.underlying137 d4m (z := Value.nilIface) (by kernel_rfl) (by kernel_rfl) (by kernel_rfl) (by kernel_rfl) I hr hs hb h
theorem c8I (a1z : ByteArray) (a1A : Int) : Pu Tryz.prog (xV (Instr.build 182 #[(0, (Value.agg #[(Value.string a1z), (Value.int .i64 a1A)]))])) (.agg #[(Value.string a1z), (Value.int .i64 a1A)]) := Pu.ok fun w => by kernel_rfl
theorem c5v (x : V1) : Pu Tryz.prog (xV (Instr.makeInterface 182 (.agg #[(Value.string x.V2.b8), (Value.int .i64 x.V2.Q3)]))) (C3 (d9.O7 x)) := Pu.ok fun w => rfl
theorem c8J (a1z : Int) (a1A : ByteArray) (a0_2a : Option Addr) (a0_2n a0_2c : Nat) (a0_3a : Option Addr) (a0_3n a0_3c : Nat) (a0_4a : Option Addr) (a0_4n a0_4c : Nat) (a0_5a : Option Addr) (a0_5n a0_5c : Nat) : Pu Tryz.prog (xV (Instr.build 184 #[(0, (Value.agg #[(Value.int .i64 a1z), (Value.string a1A), (Value.slice a0_2a a0_2n a0_2c), (Value.slice a0_3a a0_3n a0_3c), (Value.slice a0_4a a0_4n a0_4c), (Value.slice a0_5a a0_5n a0_5c)]))])) (.agg #[(Value.int .i64 a1z), (Value.string a1A), (Value.slice a0_2a a0_2n a0_2c), (Value.slice a0_3a a0_3n a0_3c), (Value.slice a0_4a a0_4n a0_4c), (Value.slice a0_5a a0_5n a0_5c)]) := Pu.ok fun w => by kernel_rfl
theorem c5w (x : R5) : Pu Tryz.prog (xV (Instr.makeInterface 184 (.agg #[(Value.int .i64 x.i6.a8), (Value.string x.i6.b8), (Value.slice x.i6.f2.a x.i6.f2.n x.i6.f2.c), (Value.slice x.i6.j7.a x.i6.j7.n x.i6.j7.c), (Value.slice x.i6.E5.a x.i6.E5.n x.i6.E5.c), (Value.slice x.i6.B5.a x.i6.B5.n x.i6.B5.c)]))) (C3 (d9.M6 x)) := Pu.ok fun w => rfl
theorem d4n (a0 : Int) (w : World) : (Instr.buildSlice 37 1 #[(0, (Value.int .i64 a0))]).run Tryz.prog w = .ok (.slice (some ⟨w.heap.size, 0, none⟩) 1 1) (w.alloc (.cells [(Value.int .i64 a0)].toArray 2)) := by kernel_rfl
theorem b1U {g o : Nat} : Pu Tryz.prog (xV (Instr.fieldAt 80 (.pointer (some ⟨g, o, none⟩)) 2)) (.pointer (some ⟨g, o + 2, none⟩)) := Pu.ok fun w => by kernel_rfl
theorem a9r {g o : Nat} : Pu Tryz.prog (xV (Instr.fieldAt 80 (.pointer (some ⟨g, o, none⟩)) 3)) (.pointer (some ⟨g, o + 3, none⟩)) := Pu.ok fun w => by kernel_rfl
theorem b6L {g o : Nat} : Pu Tryz.prog (xV (Instr.fieldAt 80 (.pointer (some ⟨g, o, none⟩)) 5)) (.pointer (some ⟨g, o + 5, none⟩)) := Pu.ok fun w => by kernel_rfl
theorem e3y {a : Option Addr} {g o : Nat} (ha : a = some ⟨g, o, none⟩) (len cap : Nat) (k : IntKind) (i : Int) (h0 : 0 ≤ i) (h1 : i < len) : Pu Tryz.prog (xV (Instr.indexAt 88 (.slice a len cap) (.int k i))) (.pointer (some ⟨g, o + i.toNat * 1, none⟩)) := a1w Tryz.underlying88 Tryz.sizeOf9 ha len cap k i h0 h1
theorem c7v (x : d9) : Pu Tryz.prog (xV (Instr.typeAssert (C3 x) 150 182 true)) (.tuple #[(Value.agg #[(Value.string ((((x.Z0)).V2).b8)), (Value.int .i64 ((((x.Z0)).V2).Q3))]), .bool (x.a7M)]) := by
  cases x <;> exact Pu.ok fun w => by kernel_rfl
theorem b4R {g o : Nat} : Pu Tryz.prog (xV (Instr.fieldAt 182 (.pointer (some ⟨g, o, none⟩)) 0)) (.pointer (some ⟨g, o + 0, none⟩)) := Pu.ok fun w => by kernel_rfl
theorem c7w (x : d9) : Pu Tryz.prog (xV (Instr.typeAssert (C3 x) 150 184 true)) (.tuple #[(Value.agg #[(Value.int .i64 ((((x.o3)).i6).a8)), (Value.string ((((x.o3)).i6).b8)), (Value.slice ((((x.o3)).i6).f2).a ((((x.o3)).i6).f2).n ((((x.o3)).i6).f2).c), (Value.slice ((((x.o3)).i6).j7).a ((((x.o3)).i6).j7).n ((((x.o3)).i6).j7).c), (Value.slice ((((x.o3)).i6).E5).a ((((x.o3)).i6).E5).n ((((x.o3)).i6).E5).c), (Value.slice ((((x.o3)).i6).B5).a ((((x.o3)).i6).B5).n ((((x.o3)).i6).B5).c)]), .bool (x.a7N)]) := by
  cases x <;> exact Pu.ok fun w => by kernel_rfl
theorem Q5 {g o : Nat} : Pu Tryz.prog (xV (Instr.fieldAt 184 (.pointer (some ⟨g, o, none⟩)) 0)) (.pointer (some ⟨g, o + 0, none⟩)) := Pu.ok fun w => by kernel_rfl
theorem c7x (x : d9) : Pu Tryz.prog (xV (Instr.typeAssert (C3 x) 150 136 true)) (.tuple #[(Value.agg #[(Value.int .i64 ((((x.v7)).r6).a8)), (Value.int .i64 ((((x.v7)).r6).o2)), (Value.string ((((x.v7)).r6).b8)), (Value.slice ((((x.v7)).r6).o0).a ((((x.v7)).r6).o0).n ((((x.v7)).r6).o0).c)]), .bool (x.a7L)]) := by
  cases x <;> exact Pu.ok fun w => by kernel_rfl
theorem a1v {g o : Nat} : Pu Tryz.prog (xV (Instr.fieldAt 136 (.pointer (some ⟨g, o, none⟩)) 0)) (.pointer (some ⟨g, o + 0, none⟩)) := Pu.ok fun w => by kernel_rfl
theorem c1O (k : IntKind) (n : Int) : Pu Tryz.prog (xV (convert 2 200 (.int k n))) (.int .u64 (IntKind.wrap .u64 n)) := Pu.ok fun w => run_convert_int (P := Tryz.prog) (w := w) 2 200 k n (by rw [Tryz.underlying2]; rfl) Tryz.underlying200
theorem a2Y {g o : Nat} : Pu Tryz.prog (xV (Instr.fieldAt 143 (.pointer (some ⟨g, o, none⟩)) 0)) (.pointer (some ⟨g, o + 0, none⟩)) := Pu.ok fun w => by kernel_rfl
theorem a7S (a0 : Int) (a1 : Int) : Pu Tryz.prog (xV (Instr.build 236 #[(0, (Value.int .i64 a0)), (1, (Value.int .i64 a1))])) (.agg #[(Value.int .i64 a0), (Value.int .i64 a1)]) := Pu.ok fun w => by kernel_rfl
theorem e9C (d : Nat) (a0 b0 : Int) (a1 b1 : Int) (w : World) : (Op.equalIn (d + 2) 236 (.agg #[(Value.int .i64 a0), (Value.int .i64 a1)]) (.agg #[(Value.int .i64 b0), (Value.int .i64 b1)])).run Tryz.prog w = .ok (decide (a0 = b0 ∧ a1 = b1)) w := by
  have u3 := Tryz.underlying3
  have i3 := Tryz.isAgg3
  have s3 := Tryz.sizeOf3
  have hS : Tryz.prog.underlying 236 = some (.struct (Tryz.prog.fieldsOf 236)) := by kernel_rfl
  rw [run_equalIn_agg w (d + 1) 236 _ _ hS (by kernel_rfl)]
  simp only [Program.fieldsOf, Tryz.underlying236]
  go_simp
  try simp only [c1V]
  by_cases h0 : a0 = b0
  · by_cases h1 : a1 = b1
    · simp [h0, h1]
    · simp [h0, h1]
  · simp [h0]
theorem b4o (x y : Operand) (a0 b0 : Int) (a1 b1 : Int) : Pu Tryz.prog (xBin .eql 236 x y (.agg #[(Value.int .i64 a0), (Value.int .i64 a1)]) (.agg #[(Value.int .i64 b0), (Value.int .i64 b1)])) (.bool (decide (a0 = b0 ∧ a1 = b1))) := by
  refine Pu.ok (s := do eqGuard .eql 236 x y (.agg #[(Value.int .i64 a0), (Value.int .i64 a1)]) (.agg #[(Value.int .i64 b0), (Value.int .i64 b1)]); binOp .eql 236 (.agg #[(Value.int .i64 a0), (Value.int .i64 a1)]) (.agg #[(Value.int .i64 b0), (Value.int .i64 b1)])) fun w => ?_
  rw [Sem.run_bind, run_eqGuard_agg w _ _ _ _ _ _ (by kernel_rfl), Result.andThen_ok, run_eql_struct, show (10000 : Nat) = 9998 + 2 from rfl, e9C]
  rfl
theorem d5z  : Pu Tryz.prog (xV (Instr.build 236 #[])) (.agg #[(Value.int .i64 0), (Value.int .i64 0)]) := Pu.ok fun w => by kernel_rfl
theorem a4x (a0 : Int) (a1 : Int) : Pu Tryz.prog (xV (Instr.build 240 #[(0, (Value.int .i64 a0)), (1, (Value.int .i64 a1))])) (.agg #[(Value.int .i64 a0), (Value.int .i64 a1)]) := Pu.ok fun w => by kernel_rfl
theorem e9D (d : Nat) (a0 b0 : Int) (a1 b1 : Int) (w : World) : (Op.equalIn (d + 2) 240 (.agg #[(Value.int .i64 a0), (Value.int .i64 a1)]) (.agg #[(Value.int .i64 b0), (Value.int .i64 b1)])).run Tryz.prog w = .ok (decide (a0 = b0 ∧ a1 = b1)) w := by
  have u3 := Tryz.underlying3
  have i3 := Tryz.isAgg3
  have s3 := Tryz.sizeOf3
  have hS : Tryz.prog.underlying 240 = some (.struct (Tryz.prog.fieldsOf 240)) := by kernel_rfl
  rw [run_equalIn_agg w (d + 1) 240 _ _ hS (by kernel_rfl)]
  simp only [Program.fieldsOf, Tryz.underlying240]
  go_simp
  try simp only [c1V]
  by_cases h0 : a0 = b0
  · by_cases h1 : a1 = b1
    · simp [h0, h1]
    · simp [h0, h1]
  · simp [h0]
theorem a9g (x y : Operand) (a0 b0 : Int) (a1 b1 : Int) : Pu Tryz.prog (xBin .eql 240 x y (.agg #[(Value.int .i64 a0), (Value.int .i64 a1)]) (.agg #[(Value.int .i64 b0), (Value.int .i64 b1)])) (.bool (decide (a0 = b0 ∧ a1 = b1))) := by
  refine Pu.ok (s := do eqGuard .eql 240 x y (.agg #[(Value.int .i64 a0), (Value.int .i64 a1)]) (.agg #[(Value.int .i64 b0), (Value.int .i64 b1)]); binOp .eql 240 (.agg #[(Value.int .i64 a0), (Value.int .i64 a1)]) (.agg #[(Value.int .i64 b0), (Value.int .i64 b1)])) fun w => ?_
  rw [Sem.run_bind, run_eqGuard_agg w _ _ _ _ _ _ (by kernel_rfl), Result.andThen_ok, run_eql_struct, show (10000 : Nat) = 9998 + 2 from rfl, e9D]
  rfl
theorem d5A  : Pu Tryz.prog (xV (Instr.build 240 #[])) (.agg #[(Value.int .i64 0), (Value.int .i64 0)]) := Pu.ok fun w => by kernel_rfl
theorem e3z (a0a : Option Addr) (a0n a0c : Nat) (a1a : Option Addr) (a1n a1c : Nat) (a2a : Option Addr) (a2n a2c : Nat) (a3a : Option Addr) (a3n a3c : Nat) (w : World) : (Instr.buildSlice 179 4 #[(0, (Value.slice a0a a0n a0c)), (1, (Value.slice a1a a1n a1c)), (2, (Value.slice a2a a2n a2c)), (3, (Value.slice a3a a3n a3c))]).run Tryz.prog w = .ok (.slice (some ⟨w.heap.size, 0, none⟩) 4 4) (w.alloc (.cells [(Value.slice a0a a0n a0c), (Value.slice a1a a1n a1c), (Value.slice a2a a2n a2c), (Value.slice a3a a3n a3c)].toArray 137)) := by kernel_rfl
abbrev m9 (x : o9) : List Value := [(Value.slice x.a3s.a x.a3s.n x.a3s.c), (Value.slice x.a5w.a x.a5w.n x.a5w.c)]
abbrev m8 (x : y8) : List Value := [(Value.int .i64 x.a0T), (Value.int .i64 x.a3t), (Value.int .i64 x.a3u), (Value.slice x.N2.a x.N2.n x.N2.c), (Value.slice x.b1Q.a x.b1Q.n x.b1Q.c), (Value.slice x.P8.a x.P8.n x.P8.c)]
abbrev a7T (x : j9) : List Value := [(Value.int .i64 x.fnodes), (Value.int .i64 x.fdepth), (Value.int .i64 x.fe), (Value.bool x.fform), (Value.bool x.fnamed), (Value.slice x.fnames.a x.fnames.n x.fnames.c)]
end Go.Proofs.YtnhkdkcgdcgmdaaGreatDoor
