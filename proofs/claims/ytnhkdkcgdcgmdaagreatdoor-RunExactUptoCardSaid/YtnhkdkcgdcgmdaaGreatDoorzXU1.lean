/- Single operations at this program's types, and its structures; printed by lift.py. -/
import Derived.KernelRfl
import Derived.Laws.StructEq
import Derived.Laws.Cover2
import Derived.Test.YtnhkdkcgdcgmdaaGreatDoorzXS5
import Derived.Test.YtnhkdkcgdcgmdaaGreatDoorzXGz
namespace Go.Proofs.YtnhkdkcgdcgmdaaGreatDoor
open Go.RowKit
set_option maxRecDepth 100000
set_option maxHeartbeats 2000000
structure o3 where
  D9 : Sl
  a2f : Sl
structure i5 where
  u6 : Int
  u1 : Int
  s7 : Int
  Q6 : Sl
  a5D : Sl
  O9 : Sl
structure m2 where
  b7 : Int
  C9 : Int
  d9 : ByteArray
  z8 : Sl
structure o0 where
  b7 : Int
  fOp : Int
  m6 : Sl
  v8 : Sl
structure c2d where
  fn : Int
  fleft : Int
structure i8 where
  d9 : ByteArray
  A4 : Int
structure m7 where
  b7 : Int
  d9 : ByteArray
  m6 : Sl
  y6 : Sl
  K7 : Sl
  L0 : Sl
structure b8 where
  fscript : Sl
  fleft : Int
  fended : Bool
  fout : Bool
  fo : i5
  fnames : Sl
  flists : Sl
  ftaken : Int
structure d7 where
  b2G : Bool
  C9 : Int
  b6o : Bool
structure p8 where
  fnodes : Int
  fdepth : Int
  fe : Int
  fform : Bool
  fnamed : Bool
  fnames : Sl
structure d6 where
  fn : Int
  fdepth : Int
  fbad : Int
structure b9 where
  fok : Bool
  fnames : Bool
structure o9 where
  fl : Sl
structure i7 where
  fname : ByteArray
  fas : Int
structure d8 where
  d9 : ByteArray
  b0h : Bool
structure P3 where
  z6 : m2
structure V4 where
  u9 : o0
structure d4c where
  fleft : Int
  fsteps : Int
  fscript : Sl
  fevents : Sl
  fvars : (Option Nat)
  farrays : (Option Nat)
structure a0N where
  a1y : i8
structure V5 where
  m4 : m7
structure d6O where
  f0 : Int
  f1 : Int
structure M4 where
  fexprs : Int
  fparts : Int
structure S4 where
  fexprs : Int
  fconds : Int
abbrev p9 (x : b8) (s0 s1 s2 : Sl) : List Value := [(vs x.fscript), (vi x.fleft), (Value.bool x.fended), (Value.bool x.fout), (vi x.fo.u6), (vi x.fo.u1), (vi x.fo.s7), (vs s0), (vs s1), (vs s2), (vs x.fnames), (vs x.flists), (vi x.ftaken)]
abbrev d5 (x : b8) : b8 := b8.mk x.fscript x.fleft x.fended x.fout (i5.mk x.fo.u6 x.fo.u1 x.fo.s7 (Sl.mk none 0 0) (Sl.mk none 0 0) (Sl.mk none 0 0)) x.fnames x.flists x.ftaken
abbrev a2X (x : p8) (s0 : Sl) : List Value := [(vi x.fnodes), (vi x.fdepth), (vi x.fe), (Value.bool x.fform), (Value.bool x.fnamed), (vs s0)]
abbrev a2r (x : p8) : p8 := p8.mk x.fnodes x.fdepth x.fe x.fform x.fnamed (Sl.mk none 0 0)
inductive f7 where
  | nil
  | L1 (x : P3)
  | P8 (x : V4)
  | O6 (x : a0N)
  | L5 (x : V5)
def L2 : f7 → Value
  | .nil => .nilIface
  | .L1 x => .iface 136 (.agg #[(Value.int .i64 x.z6.b7), (Value.int .i64 x.z6.C9), (Value.string x.z6.d9), (Value.slice x.z6.z8.a x.z6.z8.n x.z6.z8.c)])
  | .P8 x => .iface 143 (.agg #[(Value.int .i64 x.u9.b7), (Value.int .i64 x.u9.fOp), (Value.slice x.u9.m6.a x.u9.m6.n x.u9.m6.c), (Value.slice x.u9.v8.a x.u9.v8.n x.u9.v8.c)])
  | .O6 x => .iface 182 (.agg #[(Value.string x.a1y.d9), (Value.int .i64 x.a1y.A4)])
  | .L5 x => .iface 184 (.agg #[(Value.int .i64 x.m4.b7), (Value.string x.m4.d9), (Value.slice x.m4.m6.a x.m4.m6.n x.m4.m6.c), (Value.slice x.m4.y6.a x.m4.y6.n x.m4.y6.c), (Value.slice x.m4.K7.a x.m4.K7.n x.m4.K7.c), (Value.slice x.m4.L0.a x.m4.L0.n x.m4.L0.c)])
theorem b8S (x : f7) : [L2 x].all (·.oneCell') = true := by cases x <;> rfl
def f7.E0 : f7 → P3
  | .L1 x => x
  | _ => (P3.mk (m2.mk 0 0 ⟨#[]⟩ (Sl.mk none 0 0)))
def f7.a6Z : f7 → Bool
  | .L1 _ => true
  | _ => false
def f7.a1Y : f7 → a0N
  | .O6 x => x
  | _ => (a0N.mk (i8.mk ⟨#[]⟩ 0))
def f7.a7a : f7 → Bool
  | .O6 _ => true
  | _ => false
def f7.y8 : f7 → V5
  | .L5 x => x
  | _ => (V5.mk (m7.mk 0 ⟨#[]⟩ (Sl.mk none 0 0) (Sl.mk none 0 0) (Sl.mk none 0 0) (Sl.mk none 0 0)))
def f7.a7b : f7 → Bool
  | .L5 _ => true
  | _ => false
theorem O1 {g o : Nat} : Pu pG (xV (Instr.fieldAt 25 (.pointer (some ⟨g, o, none⟩)) 0)) (.pointer (some ⟨g, o + 0, none⟩)) := Pu.ok fun w => by kernel_rfl
theorem a3w (a : Option Addr) (n c : Nat) : Pu pG (xBuiltin .len #[22] 3 [false] [.slice a n c]) (.int .i64 (n : Int)) := U0 Tryz.underlying22 a n c
theorem a3X {g o : Nat} : Pu pG (xV (Instr.fieldAt 25 (.pointer (some ⟨g, o, none⟩)) 1)) (.pointer (some ⟨g, o + 1, none⟩)) := Pu.ok fun w => by kernel_rfl
theorem a0h (a : Option Addr) (n c : Nat) : Pu pG (xBuiltin .len #[23] 3 [false] [.slice a n c]) (.int .i64 (n : Int)) := U0 Tryz.underlying23 a n c
abbrev t6 (x : Int) : List Value := [(Value.int .i64 x)]
theorem b6p (x : Int) : (t6 x).length = 1 := rfl
theorem b6q (x : Int) : (t6 x).all (·.oneCell') = true := rfl
theorem c3m : Tryz.prog.info? 2 = some ((Tryz.prog.info? 2).getD default) := by kernel_rfl
theorem b9F {E : Pan} {w0 w : World} {ps : Nat → Prop} {H0 H : Hp} {Fs : List Frag} {K : Value → World → Prop} {s : Sl} {xs : List Int} {F : Frag} {t2 : Sl} {ys : List Int} {ks : List Bool} {ty : TypeId} (I : Inv w0 ps H0 H (F :: Fs) w) (hr : RowL 2 1 t6 s xs F) (hs : SrcO w t6 t2 ys) (hb : (xs.length + ys.length) * 9 ≤ 140737488355328) (h : ∀ (s' : Sl) (F' : Frag) (w' : World), RowL 2 1 t6 s' (xs ++ ys) F' → Inv w0 ps H0 H (F' :: Fs) w' → (∀ k, k < w.heap.size → (∀ p ∈ F, p.1 ≠ k) → w'.heap[k]? = w.heap[k]?) → K (.slice s'.a s'.n s'.c) w') : opK pG E (xBuiltin .append #[37, 37] ty ks [.slice s.a s.n s.c, .slice t2.a t2.n t2.c]) w K :=
  b0g (bytes := 8) Tryz.underlying37 c3m (z := (Value.int .i64 0)) (by kernel_rfl) (by kernel_rfl) (by kernel_rfl) (by kernel_rfl) I hr hs hb h
theorem a2s {g o : Nat} : Pu pG (xV (Instr.fieldAt 42 (.pointer (some ⟨g, o, none⟩)) 4)) (.pointer (some ⟨g, o + 4, none⟩)) := Pu.ok fun w => by kernel_rfl
theorem a4l (a : Option Addr) (n c : Nat) : Pu pG (xBuiltin .len #[37] 3 [false] [.slice a n c]) (.int .i64 (n : Int)) := U0 Tryz.underlying37 a n c
theorem P4 {a : Option Addr} {g o : Nat} (ha : a = some ⟨g, o, none⟩) (len cap : Nat) (k : IntKind) (i : Int) (h0 : 0 ≤ i) (h1 : i < len) : Pu pG (xV (Instr.indexAt 37 (.slice a len cap) (.int k i))) (.pointer (some ⟨g, o + i.toNat * 1, none⟩)) := a1O Tryz.underlying37 Tryz.sizeOf2 ha len cap k i h0 h1
theorem a5u {g o : Nat} : Pu pG (xV (Instr.fieldAt 42 (.pointer (some ⟨g, o, none⟩)) 0)) (.pointer (some ⟨g, o + 0, none⟩)) := Pu.ok fun w => by kernel_rfl
theorem a8J {g o : Nat} : Pu pG (xV (Instr.fieldAt 42 (.pointer (some ⟨g, o, none⟩)) 2)) (.pointer (some ⟨g, o + 2, none⟩)) := Pu.ok fun w => by kernel_rfl
abbrev f4 (x : m2) : List Value := [(Value.int .i64 x.b7), (Value.int .i64 x.C9), (Value.string x.d9), (Value.slice x.z8.a x.z8.n x.z8.c)]
theorem a9U (x : m2) : (f4 x).length = 4 := rfl
theorem a9V (x : m2) : (f4 x).all (·.oneCell') = true := rfl
theorem c8f (a1J : Int) (a1K : Int) (b0V : ByteArray) (a0_3a : Option Addr) (a0_3n a0_3c : Nat) (b9G : Int) (b9H : Int) (d0T : ByteArray) (a1_3a : Option Addr) (a1_3n a1_3c : Nat) (w : World) : (Instr.buildSlice 51 2 #[(0, (Value.agg #[(Value.int .i64 a1J), (Value.int .i64 a1K), (Value.string b0V), (Value.slice a0_3a a0_3n a0_3c)])), (1, (Value.agg #[(Value.int .i64 b9G), (Value.int .i64 b9H), (Value.string d0T), (Value.slice a1_3a a1_3n a1_3c)]))]).run pG w = .ok (.slice (some ⟨w.heap.size, 0, none⟩) 2 2) (w.alloc (.cells [(Value.int .i64 a1J), (Value.int .i64 a1K), (Value.string b0V), (Value.slice a0_3a a0_3n a0_3c), (Value.int .i64 b9G), (Value.int .i64 b9H), (Value.string d0T), (Value.slice a1_3a a1_3n a1_3c)].toArray 53)) := by kernel_rfl
theorem b8T (a0 : Int) (a3a : Option Addr) (a3n a3c : Nat) : Pu pG (xV (Instr.build 53 #[(0, (Value.int .i64 a0)), (3, (Value.slice a3a a3n a3c))])) (.agg #[(Value.int .i64 a0), (Value.int .i64 0), (Value.string ⟨#[]⟩), (Value.slice a3a a3n a3c)]) := Pu.ok fun w => by kernel_rfl
theorem b8U (a0 : Int) (a2 : ByteArray) : Pu pG (xV (Instr.build 53 #[(0, (Value.int .i64 a0)), (2, (Value.string a2))])) (.agg #[(Value.int .i64 a0), (Value.int .i64 0), (Value.string a2), (Value.slice none 0 0)]) := Pu.ok fun w => by kernel_rfl
theorem K8 {g o : Nat} : Pu pG (xV (Instr.fieldAt 53 (.pointer (some ⟨g, o, none⟩)) 0)) (.pointer (some ⟨g, o + 0, none⟩)) := Pu.ok fun w => by kernel_rfl
theorem P5 {g o : Nat} : Pu pG (xV (Instr.fieldAt 53 (.pointer (some ⟨g, o, none⟩)) 3)) (.pointer (some ⟨g, o + 3, none⟩)) := Pu.ok fun w => by kernel_rfl
theorem P9 (a : Option Addr) (n c : Nat) : Pu pG (xBuiltin .len #[51] 3 [false] [.slice a n c]) (.int .i64 (n : Int)) := U0 Tryz.underlying51 a n c
theorem K9 {a : Option Addr} {g o : Nat} (ha : a = some ⟨g, o, none⟩) (len cap : Nat) (k : IntKind) (i : Int) (h0 : 0 ≤ i) (h1 : i < len) : Pu pG (xV (Instr.indexAt 51 (.slice a len cap) (.int k i))) (.pointer (some ⟨g, o + i.toNat * 4, none⟩)) := a1O Tryz.underlying51 Tryz.sizeOf53 ha len cap k i h0 h1
theorem a5v {g o : Nat} : Pu pG (xV (Instr.fieldAt 53 (.pointer (some ⟨g, o, none⟩)) 1)) (.pointer (some ⟨g, o + 1, none⟩)) := Pu.ok fun w => by kernel_rfl
theorem a5Z {g o : Nat} : Pu pG (xV (Instr.fieldAt 59 (.pointer (some ⟨g, o, none⟩)) 0)) (.pointer (some ⟨g, o + 0, none⟩)) := Pu.ok fun w => by kernel_rfl
theorem b8V (a0a : Option Addr) (a0n a0c : Nat) (a1a : Option Addr) (a1n a1c : Nat) : Pu pG (xV (Instr.build 25 #[(0, (Value.slice a0a a0n a0c)), (1, (Value.slice a1a a1n a1c))])) (.agg #[(Value.slice a0a a0n a0c), (Value.slice a1a a1n a1c)]) := Pu.ok fun w => by kernel_rfl
abbrev o7 (x : i8) : List Value := [(Value.string x.d9), (Value.int .i64 x.A4)]
theorem a9W (x : i8) : (o7 x).length = 2 := rfl
theorem a9X (x : i8) : (o7 x).all (·.oneCell') = true := rfl
theorem d0U : Tryz.prog.info? 71 = some ((Tryz.prog.info? 71).getD default) := by kernel_rfl
theorem d0V {E : Pan} {w0 w : World} {ps : Nat → Prop} {H0 H : Hp} {Fs : List Frag} {K : Value → World → Prop} {s : Sl} {xs : List i8} {F : Frag} {t2 : Sl} {ys : List i8} {ks : List Bool} {ty : TypeId} (I : Inv w0 ps H0 H (F :: Fs) w) (hr : RowL 71 2 o7 s xs F) (hs : SrcO w o7 t2 ys) (hb : (xs.length + ys.length) * 25 ≤ 140737488355328) (h : ∀ (s' : Sl) (F' : Frag) (w' : World), RowL 71 2 o7 s' (xs ++ ys) F' → Inv w0 ps H0 H (F' :: Fs) w' → (∀ k, k < w.heap.size → (∀ p ∈ F, p.1 ≠ k) → w'.heap[k]? = w.heap[k]?) → K (.slice s'.a s'.n s'.c) w') : opK pG E (xBuiltin .append #[22, 22] ty ks [.slice s.a s.n s.c, .slice t2.a t2.n t2.c]) w K :=
  b0g (bytes := 24) Tryz.underlying22 d0U (z := (Value.agg #[(Value.string ⟨#[]⟩), (Value.int .i64 0)])) (by kernel_rfl) (by kernel_rfl) (by kernel_rfl) (by kernel_rfl) I hr hs hb h
abbrev f8 (x : m7) : List Value := [(Value.int .i64 x.b7), (Value.string x.d9), (Value.slice x.m6.a x.m6.n x.m6.c), (Value.slice x.y6.a x.y6.n x.y6.c), (Value.slice x.K7.a x.K7.n x.K7.c), (Value.slice x.L0.a x.L0.n x.L0.c)]
theorem b8W (x : m7) : (f8 x).length = 6 := rfl
theorem b8X (x : m7) : (f8 x).all (·.oneCell') = true := rfl
theorem a4s {a : Option Addr} {g o : Nat} (ha : a = some ⟨g, o, none⟩) (len cap : Nat) (k : IntKind) (i : Int) (h0 : 0 ≤ i) (h1 : i < len) : Pu pG (xV (Instr.indexAt 23 (.slice a len cap) (.int k i))) (.pointer (some ⟨g, o + i.toNat * 6, none⟩)) := a1O Tryz.underlying23 Tryz.sizeOf73 ha len cap k i h0 h1
theorem V6 {g o : Nat} : Pu pG (xV (Instr.fieldAt 73 (.pointer (some ⟨g, o, none⟩)) 0)) (.pointer (some ⟨g, o + 0, none⟩)) := Pu.ok fun w => by kernel_rfl
theorem a1P {g o : Nat} : Pu pG (xV (Instr.fieldAt 73 (.pointer (some ⟨g, o, none⟩)) 1)) (.pointer (some ⟨g, o + 1, none⟩)) := Pu.ok fun w => by kernel_rfl
theorem V7 {g o : Nat} : Pu pG (xV (Instr.fieldAt 73 (.pointer (some ⟨g, o, none⟩)) 3)) (.pointer (some ⟨g, o + 3, none⟩)) := Pu.ok fun w => by kernel_rfl
theorem a1Z (a : Option Addr) (n c : Nat) : Pu pG (xBuiltin .len #[57] 3 [false] [.slice a n c]) (.int .i64 (n : Int)) := U0 Tryz.underlying57 a n c
theorem P6 {a : Option Addr} {g o : Nat} (ha : a = some ⟨g, o, none⟩) (len cap : Nat) (k : IntKind) (i : Int) (h0 : 0 ≤ i) (h1 : i < len) : Pu pG (xV (Instr.indexAt 57 (.slice a len cap) (.int k i))) (.pointer (some ⟨g, o + i.toNat * 4, none⟩)) := a1O Tryz.underlying57 Tryz.sizeOf59 ha len cap k i h0 h1
abbrev h9 (x : o0) : List Value := [(Value.int .i64 x.b7), (Value.int .i64 x.fOp), (Value.slice x.m6.a x.m6.n x.m6.c), (Value.slice x.v8.a x.v8.n x.v8.c)]
theorem V8 {g o : Nat} : Pu pG (xV (Instr.fieldAt 73 (.pointer (some ⟨g, o, none⟩)) 2)) (.pointer (some ⟨g, o + 2, none⟩)) := Pu.ok fun w => by kernel_rfl
theorem c2e (a1J : Int) (a1K : Int) (b0V : ByteArray) (a0_3a : Option Addr) (a0_3n a0_3c : Nat) (w : World) : (Instr.buildSlice 51 1 #[(0, (Value.agg #[(Value.int .i64 a1J), (Value.int .i64 a1K), (Value.string b0V), (Value.slice a0_3a a0_3n a0_3c)]))]).run pG w = .ok (.slice (some ⟨w.heap.size, 0, none⟩) 1 1) (w.alloc (.cells [(Value.int .i64 a1J), (Value.int .i64 a1K), (Value.string b0V), (Value.slice a0_3a a0_3n a0_3c)].toArray 53)) := by kernel_rfl
theorem a0O {g o : Nat} : Pu pG (xV (Instr.fieldAt 73 (.pointer (some ⟨g, o, none⟩)) 4)) (.pointer (some ⟨g, o + 4, none⟩)) := Pu.ok fun w => by kernel_rfl
theorem a1Q {g o : Nat} : Pu pG (xV (Instr.fieldAt 73 (.pointer (some ⟨g, o, none⟩)) 5)) (.pointer (some ⟨g, o + 5, none⟩)) := Pu.ok fun w => by kernel_rfl
theorem a1x {a : Option Addr} {g o : Nat} (ha : a = some ⟨g, o, none⟩) (len cap : Nat) (k : IntKind) (i : Int) (h0 : 0 ≤ i) (h1 : i < len) : Pu pG (xV (Instr.indexAt 22 (.slice a len cap) (.int k i))) (.pointer (some ⟨g, o + i.toNat * 2, none⟩)) := a1O Tryz.underlying22 Tryz.sizeOf71 ha len cap k i h0 h1
theorem b3Y (a0 : Int) (a1 : Int) : Pu pG (xV (Instr.build 53 #[(0, (Value.int .i64 a0)), (1, (Value.int .i64 a1))])) (.agg #[(Value.int .i64 a0), (Value.int .i64 a1), (Value.string ⟨#[]⟩), (Value.slice none 0 0)]) := Pu.ok fun w => by kernel_rfl
theorem c1G (a0 : ByteArray) : Pu pG (xV (Instr.build 71 #[(0, (Value.string a0))])) (.agg #[(Value.string a0), (Value.int .i64 0)]) := Pu.ok fun w => by kernel_rfl
theorem c2f (a1J : ByteArray) (a1K : Int) (w : World) : (Instr.buildSlice 22 1 #[(0, (Value.agg #[(Value.string a1J), (Value.int .i64 a1K)]))]).run pG w = .ok (.slice (some ⟨w.heap.size, 0, none⟩) 1 1) (w.alloc (.cells [(Value.string a1J), (Value.int .i64 a1K)].toArray 71)) := by kernel_rfl
theorem b1Z (a0 : Int) (a1 : ByteArray) (a2a : Option Addr) (a2n a2c : Nat) : Pu pG (xV (Instr.build 73 #[(0, (Value.int .i64 a0)), (1, (Value.string a1)), (2, (Value.slice a2a a2n a2c))])) (.agg #[(Value.int .i64 a0), (Value.string a1), (Value.slice a2a a2n a2c), (Value.slice none 0 0), (Value.slice none 0 0), (Value.slice none 0 0)]) := Pu.ok fun w => by kernel_rfl
theorem c8g (a1J : Int) (a1K : ByteArray) (a0_2a : Option Addr) (a0_2n a0_2c : Nat) (a0_3a : Option Addr) (a0_3n a0_3c : Nat) (a0_4a : Option Addr) (a0_4n a0_4c : Nat) (a0_5a : Option Addr) (a0_5n a0_5c : Nat) (b9G : Int) (b9H : ByteArray) (a1_2a : Option Addr) (a1_2n a1_2c : Nat) (a1_3a : Option Addr) (a1_3n a1_3c : Nat) (a1_4a : Option Addr) (a1_4n a1_4c : Nat) (a1_5a : Option Addr) (a1_5n a1_5c : Nat) (w : World) : (Instr.buildSlice 23 2 #[(0, (Value.agg #[(Value.int .i64 a1J), (Value.string a1K), (Value.slice a0_2a a0_2n a0_2c), (Value.slice a0_3a a0_3n a0_3c), (Value.slice a0_4a a0_4n a0_4c), (Value.slice a0_5a a0_5n a0_5c)])), (1, (Value.agg #[(Value.int .i64 b9G), (Value.string b9H), (Value.slice a1_2a a1_2n a1_2c), (Value.slice a1_3a a1_3n a1_3c), (Value.slice a1_4a a1_4n a1_4c), (Value.slice a1_5a a1_5n a1_5c)]))]).run pG w = .ok (.slice (some ⟨w.heap.size, 0, none⟩) 2 2) (w.alloc (.cells [(Value.int .i64 a1J), (Value.string a1K), (Value.slice a0_2a a0_2n a0_2c), (Value.slice a0_3a a0_3n a0_3c), (Value.slice a0_4a a0_4n a0_4c), (Value.slice a0_5a a0_5n a0_5c), (Value.int .i64 b9G), (Value.string b9H), (Value.slice a1_2a a1_2n a1_2c), (Value.slice a1_3a a1_3n a1_3c), (Value.slice a1_4a a1_4n a1_4c), (Value.slice a1_5a a1_5n a1_5c)].toArray 73)) := by kernel_rfl
theorem b8x  : Pu pG (xV (Instr.build 42 #[])) (.agg #[(Value.int .i64 0), (Value.int .i64 0), (Value.int .i64 0), (Value.slice none 0 0), (Value.slice none 0 0), (Value.slice none 0 0)]) := Pu.ok fun w => by kernel_rfl
theorem b6r (a0a : Option Addr) (a0n a0c : Nat) (a1 : Int) (a5a : Option Addr) (a5n a5c : Nat) : Pu pG (xV (Instr.build 91 #[(0, (Value.slice a0a a0n a0c)), (1, (Value.int .i64 a1)), (5, (Value.slice a5a a5n a5c))])) (.agg #[(Value.slice a0a a0n a0c), (Value.int .i64 a1), (Value.bool false), (Value.bool false), (Value.int .i64 0), (Value.int .i64 0), (Value.int .i64 0), (Value.slice none 0 0), (Value.slice none 0 0), (Value.slice none 0 0), (Value.slice a5a a5n a5c), (Value.slice none 0 0), (Value.int .i64 0)]) := Pu.ok fun w => by kernel_rfl
theorem b3j {g o : Nat} : Pu pG (xV (Instr.fieldAt 91 (.pointer (some ⟨g, o, none⟩)) 5)) (.pointer (some ⟨g, o + 10, none⟩)) := Pu.ok fun w => by kernel_rfl
theorem b8y (a : Option Addr) (n c : Nat) : Pu pG (xBuiltin .len #[88] 3 [false] [.slice a n c]) (.int .i64 (n : Int)) := U0 Tryz.underlying88 a n c
theorem c4y {E : Pan} {w0 w : World} {ps : Nat → Prop} {H0 H : Hp} {Fs : List Frag} {K : Value → World → Prop} {kl kc : IntKind} {n : Int} (I : Inv w0 ps H0 H Fs w) (hn : 0 ≤ n) (hb : n * 9 ≤ 140737488355328) (h : ∀ (s' : Sl) (F' : Frag) (w' : World), RowL 2 1 t6 s' (List.replicate n.toNat 0) F' → Inv w0 ps H0 H (F' :: Fs) w' → (∀ k, k < w.heap.size → w'.heap[k]? = w.heap[k]?) → K (.slice s'.a s'.n s'.c) w') : opK pG E (xV (Instr.makeSlice 37 (.int kl n) (.int kc n))) w K :=
  c4v (bytes := 8) (x0 := 0) Tryz.underlying37 c3m (z := (Value.int .i64 0)) (by kernel_rfl) (by kernel_rfl) (by kernel_rfl) (by kernel_rfl) I b6p b6q (by decide) kl kc n hn hb h
theorem O2 {g o : Nat} : Pu pG (xV (Instr.fieldAt 91 (.pointer (some ⟨g, o, none⟩)) 4)) (.pointer (some ⟨g, o + 4, none⟩)) := Pu.ok fun w => by kernel_rfl
theorem b0i {g o : Nat} : Pu pG (xV (Instr.fieldAt 91 (.pointer (some ⟨g, o, none⟩)) 6)) (.pointer (some ⟨g, o + 11, none⟩)) := Pu.ok fun w => by kernel_rfl
theorem Q5 {g o : Nat} : Pu pG (xV (Instr.fieldAt 71 (.pointer (some ⟨g, o, none⟩)) 0)) (.pointer (some ⟨g, o + 0, none⟩)) := Pu.ok fun w => by kernel_rfl
abbrev C5 (x : ByteArray) : List Value := [(Value.string x)]
theorem a6z (x : ByteArray) : (C5 x).length = 1 := rfl
theorem a6A (x : ByteArray) : (C5 x).all (·.oneCell') = true := rfl
theorem b7d (a0 : ByteArray) (w : World) : (Instr.buildSlice 88 1 #[(0, (Value.string a0))]).run pG w = .ok (.slice (some ⟨w.heap.size, 0, none⟩) 1 1) (w.alloc (.cells [(Value.string a0)].toArray 9)) := by kernel_rfl
theorem d4g : Tryz.prog.info? 9 = some ((Tryz.prog.info? 9).getD default) := by kernel_rfl
theorem b9I {E : Pan} {w0 w : World} {ps : Nat → Prop} {H0 H : Hp} {Fs : List Frag} {K : Value → World → Prop} {s : Sl} {xs : List ByteArray} {F : Frag} {t2 : Sl} {ys : List ByteArray} {ks : List Bool} {ty : TypeId} (I : Inv w0 ps H0 H (F :: Fs) w) (hr : RowL 9 1 C5 s xs F) (hs : SrcO w C5 t2 ys) (hb : (xs.length + ys.length) * 17 ≤ 140737488355328) (h : ∀ (s' : Sl) (F' : Frag) (w' : World), RowL 9 1 C5 s' (xs ++ ys) F' → Inv w0 ps H0 H (F' :: Fs) w' → (∀ k, k < w.heap.size → (∀ p ∈ F, p.1 ≠ k) → w'.heap[k]? = w.heap[k]?) → K (.slice s'.a s'.n s'.c) w') : opK pG E (xBuiltin .append #[88, 88] ty ks [.slice s.a s.n s.c, .slice t2.a t2.n t2.c]) w K :=
  b0g (bytes := 16) Tryz.underlying88 d4g (z := (Value.string ⟨#[]⟩)) (by kernel_rfl) (by kernel_rfl) (by kernel_rfl) (by kernel_rfl) I hr hs hb h
theorem a0j {g o : Nat} : Pu pG (xV (Instr.fieldAt 42 (.pointer (some ⟨g, o, none⟩)) 5)) (.pointer (some ⟨g, o + 5, none⟩)) := Pu.ok fun w => by kernel_rfl
theorem V9 {g o : Nat} : Pu pG (xV (Instr.fieldAt 71 (.pointer (some ⟨g, o, none⟩)) 1)) (.pointer (some ⟨g, o + 1, none⟩)) := Pu.ok fun w => by kernel_rfl
theorem c8h (a0a : Option Addr) (a0n a0c : Nat) (w : World) : (Instr.buildSlice 40 1 #[(0, (Value.slice a0a a0n a0c))]).run pG w = .ok (.slice (some ⟨w.heap.size, 0, none⟩) 1 1) (w.alloc (.cells [(Value.slice a0a a0n a0c)].toArray 37)) := by kernel_rfl
theorem d0W : Tryz.prog.info? 37 = some ((Tryz.prog.info? 37).getD default) := by kernel_rfl
theorem d0X {E : Pan} {w0 w : World} {ps : Nat → Prop} {H0 H : Hp} {Fs : List Frag} {K : Value → World → Prop} {s : Sl} {xs : List Sl} {F : Frag} {t2 : Sl} {ys : List Sl} {ks : List Bool} {ty : TypeId} (I : Inv w0 ps H0 H (F :: Fs) w) (hr : RowL 37 1 csl s xs F) (hs : SrcO w csl t2 ys) (hb : (xs.length + ys.length) * 25 ≤ 140737488355328) (h : ∀ (s' : Sl) (F' : Frag) (w' : World), RowL 37 1 csl s' (xs ++ ys) F' → Inv w0 ps H0 H (F' :: Fs) w' → (∀ k, k < w.heap.size → (∀ p ∈ F, p.1 ≠ k) → w'.heap[k]? = w.heap[k]?) → K (.slice s'.a s'.n s'.c) w') : opK pG E (xBuiltin .append #[40, 40] ty ks [.slice s.a s.n s.c, .slice t2.a t2.n t2.c]) w K :=
  b0g (bytes := 24) Tryz.underlying40 d0W (z := (Value.slice none 0 0)) (by kernel_rfl) (by kernel_rfl) (by kernel_rfl) (by kernel_rfl) I hr hs hb h
abbrev r8 (x : d7) : List Value := [(Value.bool x.b2G), (Value.int .i64 x.C9), (Value.bool x.b6o)]
theorem a2Y (x : d7) : (r8 x).length = 3 := rfl
theorem a2Z (x : d7) : (r8 x).all (·.oneCell') = true := rfl
theorem a8K {g o : Nat} : Pu pG (xV (Instr.fieldAt 91 (.pointer (some ⟨g, o, none⟩)) 2)) (.pointer (some ⟨g, o + 2, none⟩)) := Pu.ok fun w => by kernel_rfl
theorem b3k {g o : Nat} : Pu pG (xV (Instr.fieldAt 91 (.pointer (some ⟨g, o, none⟩)) 3)) (.pointer (some ⟨g, o + 3, none⟩)) := Pu.ok fun w => by kernel_rfl
theorem b3l {g o : Nat} : Pu pG (xV (Instr.fieldAt 91 (.pointer (some ⟨g, o, none⟩)) 1)) (.pointer (some ⟨g, o + 1, none⟩)) := Pu.ok fun w => by kernel_rfl
theorem a3q {g o : Nat} : Pu pG (xV (Instr.fieldAt 53 (.pointer (some ⟨g, o, none⟩)) 2)) (.pointer (some ⟨g, o + 2, none⟩)) := Pu.ok fun w => by kernel_rfl
theorem b0j {g o : Nat} : Pu pG (xV (Instr.fieldAt 91 (.pointer (some ⟨g, o, none⟩)) 7)) (.pointer (some ⟨g, o + 12, none⟩)) := Pu.ok fun w => by kernel_rfl
theorem b6s {g o : Nat} : Pu pG (xV (Instr.fieldAt 91 (.pointer (some ⟨g, o, none⟩)) 0)) (.pointer (some ⟨g, o + 0, none⟩)) := Pu.ok fun w => by kernel_rfl
theorem a3Y {g o : Nat} : Pu pG (xV (Instr.fieldAt 42 (.pointer (some ⟨g, o, none⟩)) 3)) (.pointer (some ⟨g, o + 3, none⟩)) := Pu.ok fun w => by kernel_rfl
theorem b3Z (a0 : Bool) (a1 : Int) : Pu pG (xV (Instr.build 95 #[(0, (Value.bool a0)), (1, (Value.int .i64 a1))])) (.agg #[(Value.bool a0), (Value.int .i64 a1), (Value.bool false)]) := Pu.ok fun w => by kernel_rfl
theorem b4G (a1J : Bool) (a1K : Int) (b0V : Bool) (w : World) : (Instr.buildSlice 39 1 #[(0, (Value.agg #[(Value.bool a1J), (Value.int .i64 a1K), (Value.bool b0V)]))]).run pG w = .ok (.slice (some ⟨w.heap.size, 0, none⟩) 1 1) (w.alloc (.cells [(Value.bool a1J), (Value.int .i64 a1K), (Value.bool b0V)].toArray 95)) := by kernel_rfl
theorem d0Y : Tryz.prog.info? 95 = some ((Tryz.prog.info? 95).getD default) := by kernel_rfl
theorem b6t {E : Pan} {w0 w : World} {ps : Nat → Prop} {H0 H : Hp} {Fs : List Frag} {K : Value → World → Prop} {s : Sl} {xs : List d7} {F : Frag} {t2 : Sl} {ys : List d7} {ks : List Bool} {ty : TypeId} (I : Inv w0 ps H0 H (F :: Fs) w) (hr : RowL 95 3 r8 s xs F) (hs : SrcO w r8 t2 ys) (hb : (xs.length + ys.length) * 25 ≤ 140737488355328) (h : ∀ (s' : Sl) (F' : Frag) (w' : World), RowL 95 3 r8 s' (xs ++ ys) F' → Inv w0 ps H0 H (F' :: Fs) w' → (∀ k, k < w.heap.size → (∀ p ∈ F, p.1 ≠ k) → w'.heap[k]? = w.heap[k]?) → K (.slice s'.a s'.n s'.c) w') : opK pG E (xBuiltin .append #[39, 39] ty ks [.slice s.a s.n s.c, .slice t2.a t2.n t2.c]) w K :=
  b0g (bytes := 24) Tryz.underlying39 d0Y (z := (Value.agg #[(Value.bool false), (Value.int .i64 0), (Value.bool false)])) (by kernel_rfl) (by kernel_rfl) (by kernel_rfl) (by kernel_rfl) I hr hs hb h
theorem a9q {a : Option Addr} {g o : Nat} (ha : a = some ⟨g, o, none⟩) (len cap : Nat) (k : IntKind) (i : Int) (h0 : 0 ≤ i) (h1 : i < len) : Pu pG (xV (Instr.indexAt 40 (.slice a len cap) (.int k i))) (.pointer (some ⟨g, o + i.toNat * 1, none⟩)) := a1O Tryz.underlying40 Tryz.sizeOf37 ha len cap k i h0 h1
theorem b3m {g o : Nat} : Pu pG (xV (Instr.fieldAt 42 (.pointer (some ⟨g, o, none⟩)) 1)) (.pointer (some ⟨g, o + 1, none⟩)) := Pu.ok fun w => by kernel_rfl
theorem O3 {g o : Nat} : Pu pG (xV (Instr.fieldAt 59 (.pointer (some ⟨g, o, none⟩)) 3)) (.pointer (some ⟨g, o + 3, none⟩)) := Pu.ok fun w => by kernel_rfl
theorem a0k {g o : Nat} : Pu pG (xV (Instr.fieldAt 59 (.pointer (some ⟨g, o, none⟩)) 2)) (.pointer (some ⟨g, o + 2, none⟩)) := Pu.ok fun w => by kernel_rfl
theorem a5w {g o : Nat} : Pu pG (xV (Instr.fieldAt 59 (.pointer (some ⟨g, o, none⟩)) 1)) (.pointer (some ⟨g, o + 1, none⟩)) := Pu.ok fun w => by kernel_rfl
theorem c1H (a2 : Bool) : Pu pG (xV (Instr.build 95 #[(2, (Value.bool a2))])) (.agg #[(Value.bool false), (Value.int .i64 0), (Value.bool a2)]) := Pu.ok fun w => by kernel_rfl
theorem b4k (a : Option Addr) (n c : Nat) : Pu pG (xBuiltin .len #[39] 3 [false] [.slice a n c]) (.int .i64 (n : Int)) := U0 Tryz.underlying39 a n c
theorem b4l (a : Option Addr) (n c : Nat) : Pu pG (xBuiltin .len #[40] 3 [false] [.slice a n c]) (.int .i64 (n : Int)) := U0 Tryz.underlying40 a n c
theorem b9J {a : Option Addr} {g o : Nat} (ha : a = some ⟨g, o, none⟩) (len cap : Nat) (k : IntKind) (i : Int) (h0 : 0 ≤ i) (h1 : i < len) : Pu pG (xV (Instr.indexAt 39 (.slice a len cap) (.int k i))) (.pointer (some ⟨g, o + i.toNat * 3, none⟩)) := a1O Tryz.underlying39 Tryz.sizeOf95 ha len cap k i h0 h1
theorem d0Z (d : Nat) (a0 b0 : Bool) (a1 b1 : Int) (a2 b2 : Bool) (w : World) : (Op.equalIn (d + 2) 95 (.agg #[(Value.bool a0), (Value.int .i64 a1), (Value.bool a2)]) (.agg #[(Value.bool b0), (Value.int .i64 b1), (Value.bool b2)])).run pG w = .ok (decide (a0 = b0 ∧ a1 = b1 ∧ a2 = b2)) w := by
  have u4 := Tryz.underlying4
  have i4 := Tryz.isAgg4
  have s4 := Tryz.sizeOf4
  have u2 := Tryz.underlying2
  have i2 := Tryz.isAgg2
  have s2 := Tryz.sizeOf2
  have hS : Tryz.prog.underlying 95 = some (.struct (Tryz.prog.fieldsOf 95)) := by kernel_rfl
  rw [run_equalIn_agg w (d + 1) 95 _ _ hS (by kernel_rfl)]
  simp only [Program.fieldsOf, Tryz.underlying95]
  go_simp
  try simp only [b5D]
  by_cases h0 : a0 = b0
  · by_cases h1 : a1 = b1
    · by_cases h2 : a2 = b2
      · simp [h0, h1, h2]
      · simp [h0, h1, h2]
    · simp [h0, h1]
  · simp [h0]
theorem c6q (x y : Operand) (a0 b0 : Bool) (a1 b1 : Int) (a2 b2 : Bool) : Pu pG (xBin .neq 95 x y (.agg #[(Value.bool a0), (Value.int .i64 a1), (Value.bool a2)]) (.agg #[(Value.bool b0), (Value.int .i64 b1), (Value.bool b2)])) (.bool (!decide (a0 = b0 ∧ a1 = b1 ∧ a2 = b2))) := by
  refine Pu.ok (s := do eqGuard .neq 95 x y (.agg #[(Value.bool a0), (Value.int .i64 a1), (Value.bool a2)]) (.agg #[(Value.bool b0), (Value.int .i64 b1), (Value.bool b2)]); binOp .neq 95 (.agg #[(Value.bool a0), (Value.int .i64 a1), (Value.bool a2)]) (.agg #[(Value.bool b0), (Value.int .i64 b1), (Value.bool b2)])) fun w => ?_
  rw [Sem.run_bind, run_eqGuard_agg w _ _ _ _ _ _ (by kernel_rfl), Result.andThen_ok, run_neq_struct, show (10000 : Nat) = 9998 + 2 from rfl, d0Z]
  rfl
theorem a7P {g o : Nat} : Pu pG (xV (Instr.fieldAt 101 (.pointer (some ⟨g, o, none⟩)) 2)) (.pointer (some ⟨g, o + 2, none⟩)) := Pu.ok fun w => by kernel_rfl
theorem U5 {g o : Nat} : Pu pG (xV (Instr.fieldAt 108 (.pointer (some ⟨g, o, none⟩)) 2)) (.pointer (some ⟨g, o + 2, none⟩)) := Pu.ok fun w => by kernel_rfl
theorem b7e (a0 : Bool) (a1 : Bool) : Pu pG (xV (Instr.build 111 #[(0, (Value.bool a0)), (1, (Value.bool a1))])) (.agg #[(Value.bool a0), (Value.bool a1)]) := Pu.ok fun w => by kernel_rfl
theorem K5 {g o : Nat} : Pu pG (xV (Instr.fieldAt 111 (.pointer (some ⟨g, o, none⟩)) 0)) (.pointer (some ⟨g, o + 0, none⟩)) := Pu.ok fun w => by kernel_rfl
theorem b2l {g o : Nat} : Pu pG (xV (Instr.fieldAt 111 (.pointer (some ⟨g, o, none⟩)) 1)) (.pointer (some ⟨g, o + 1, none⟩)) := Pu.ok fun w => by kernel_rfl
theorem c3n  : Pu pG (xV (Instr.build 125 #[])) (.agg #[(Value.slice none 0 0)]) := Pu.ok fun w => by kernel_rfl
abbrev B0 (x : i7) : List Value := [(Value.string x.fname), (Value.int .i64 x.fas)]
theorem a6u (x : i7) : (B0 x).length = 2 := rfl
theorem a6v (x : i7) : (B0 x).all (·.oneCell') = true := rfl
theorem a3r {g o : Nat} : Pu pG (xV (Instr.fieldAt 125 (.pointer (some ⟨g, o, none⟩)) 0)) (.pointer (some ⟨g, o + 0, none⟩)) := Pu.ok fun w => by kernel_rfl
theorem a7c (a0 : ByteArray) (a1 : Int) : Pu pG (xV (Instr.build 127 #[(0, (Value.string a0)), (1, (Value.int .i64 a1))])) (.agg #[(Value.string a0), (Value.int .i64 a1)]) := Pu.ok fun w => by kernel_rfl
theorem b3n (a1J : ByteArray) (a1K : Int) (w : World) : (Instr.buildSlice 123 1 #[(0, (Value.agg #[(Value.string a1J), (Value.int .i64 a1K)]))]).run pG w = .ok (.slice (some ⟨w.heap.size, 0, none⟩) 1 1) (w.alloc (.cells [(Value.string a1J), (Value.int .i64 a1K)].toArray 127)) := by kernel_rfl
theorem c8i : Tryz.prog.info? 127 = some ((Tryz.prog.info? 127).getD default) := by kernel_rfl
theorem b4H {E : Pan} {w0 w : World} {ps : Nat → Prop} {H0 H : Hp} {Fs : List Frag} {K : Value → World → Prop} {s : Sl} {xs : List i7} {F : Frag} {t2 : Sl} {ys : List i7} {ks : List Bool} {ty : TypeId} (I : Inv w0 ps H0 H (F :: Fs) w) (hr : RowL 127 2 B0 s xs F) (hs : SrcO w B0 t2 ys) (hb : (xs.length + ys.length) * 25 ≤ 140737488355328) (h : ∀ (s' : Sl) (F' : Frag) (w' : World), RowL 127 2 B0 s' (xs ++ ys) F' → Inv w0 ps H0 H (F' :: Fs) w' → (∀ k, k < w.heap.size → (∀ p ∈ F, p.1 ≠ k) → w'.heap[k]? = w.heap[k]?) → K (.slice s'.a s'.n s'.c) w') : opK pG E (xBuiltin .append #[123, 123] ty ks [.slice s.a s.n s.c, .slice t2.a t2.n t2.c]) w K :=
  b0g (bytes := 24) Tryz.underlying123 c8i (z := (Value.agg #[(Value.string ⟨#[]⟩), (Value.int .i64 0)])) (by kernel_rfl) (by kernel_rfl) (by kernel_rfl) (by kernel_rfl) I hr hs hb h
theorem c4z {a : Option Addr} {g o : Nat} (ha : a = some ⟨g, o, none⟩) (len cap : Nat) (k : IntKind) (i : Int) (h0 : 0 ≤ i) (h1 : i < len) : Pu pG (xV (Instr.indexAt 123 (.slice a len cap) (.int k i))) (.pointer (some ⟨g, o + i.toNat * 2, none⟩)) := a1O Tryz.underlying123 Tryz.sizeOf127 ha len cap k i h0 h1
theorem b2m {g o : Nat} : Pu pG (xV (Instr.fieldAt 127 (.pointer (some ⟨g, o, none⟩)) 0)) (.pointer (some ⟨g, o + 0, none⟩)) := Pu.ok fun w => by kernel_rfl
theorem c1I {g o : Nat} : Pu pG (xV (Instr.fieldAt 127 (.pointer (some ⟨g, o, none⟩)) 1)) (.pointer (some ⟨g, o + 1, none⟩)) := Pu.ok fun w => by kernel_rfl
theorem c3o (a : Option Addr) (n c : Nat) : Pu pG (xBuiltin .len #[130] 3 [false] [.slice a n c]) (.int .i64 (n : Int)) := U0 Tryz.underlying130 a n c
theorem b2a {a : Option Addr} {g o : Nat} (ha : a = some ⟨g, o, none⟩) (len cap : Nat) (k : IntKind) (i : Int) (h0 : 0 ≤ i) (h1 : i < len) : Pu pG (xV (Instr.indexAt 130 (.slice a len cap) (.int k i))) (.pointer (some ⟨g, o + i.toNat * 2, none⟩)) := a1O Tryz.underlying130 Tryz.sizeOf133 ha len cap k i h0 h1
theorem b2n {g o : Nat} : Pu pG (xV (Instr.fieldAt 133 (.pointer (some ⟨g, o, none⟩)) 0)) (.pointer (some ⟨g, o + 0, none⟩)) := Pu.ok fun w => by kernel_rfl
theorem c1J {g o : Nat} : Pu pG (xV (Instr.fieldAt 133 (.pointer (some ⟨g, o, none⟩)) 1)) (.pointer (some ⟨g, o + 1, none⟩)) := Pu.ok fun w => by kernel_rfl
theorem c6r (x y : Operand) (a b : Bool) : Pu pG (xBin .eql 4 x y (.bool a) (.bool b)) (.bool (a == b)) := d0M _ _ _ a b Tryz.underlying4
theorem b0W (x y : Operand) (a b : Bool) : Pu pG (xBin .neq 4 x y (.bool a) (.bool b)) (.bool (a != b)) := d0N _ _ _ a b Tryz.underlying4
theorem b9K (a1J : Int) (a1K : Int) (b0V : ByteArray) (a0_3a : Option Addr) (a0_3n a0_3c : Nat) : Pu pG (xV (Instr.build 136 #[(0, (Value.agg #[(Value.int .i64 a1J), (Value.int .i64 a1K), (Value.string b0V), (Value.slice a0_3a a0_3n a0_3c)]))])) (.agg #[(Value.int .i64 a1J), (Value.int .i64 a1K), (Value.string b0V), (Value.slice a0_3a a0_3n a0_3c)]) := Pu.ok fun w => by kernel_rfl
theorem b2H (x : P3) : Pu pG (xV (Instr.makeInterface 136 (.agg #[(Value.int .i64 x.z6.b7), (Value.int .i64 x.z6.C9), (Value.string x.z6.d9), (Value.slice x.z6.z8.a x.z6.z8.n x.z6.z8.c)]))) (L2 (f7.L1 x)) := Pu.ok fun w => rfl
abbrev z7 (x : f7) : List Value := [(L2 x)]
theorem U1 (x : f7) : (z7 x).length = 1 := rfl
theorem a0g (x : f7) : (z7 x).all (·.oneCell') = true := b8S x
theorem b3o (a0 : f7) (w : World) : (Instr.buildSlice 137 1 #[(0, (L2 a0))]).run pG w = .ok (.slice (some ⟨w.heap.size, 0, none⟩) 1 1) (w.alloc (.cells [(L2 a0)].toArray 150)) := by cases a0 <;> kernel_rfl
theorem b9L (a1J : Int) (a1K : Int) (a0_2a : Option Addr) (a0_2n a0_2c : Nat) (a0_3a : Option Addr) (a0_3n a0_3c : Nat) : Pu pG (xV (Instr.build 143 #[(0, (Value.agg #[(Value.int .i64 a1J), (Value.int .i64 a1K), (Value.slice a0_2a a0_2n a0_2c), (Value.slice a0_3a a0_3n a0_3c)]))])) (.agg #[(Value.int .i64 a1J), (Value.int .i64 a1K), (Value.slice a0_2a a0_2n a0_2c), (Value.slice a0_3a a0_3n a0_3c)]) := Pu.ok fun w => by kernel_rfl
theorem b7f (x : V4) : Pu pG (xV (Instr.makeInterface 143 (.agg #[(Value.int .i64 x.u9.b7), (Value.int .i64 x.u9.fOp), (Value.slice x.u9.m6.a x.u9.m6.n x.u9.m6.c), (Value.slice x.u9.v8.a x.u9.v8.n x.u9.v8.c)]))) (L2 (f7.P8 x)) := Pu.ok fun w => rfl
theorem b9M (a0a : Option Addr) (a0n a0c : Nat) (a1a : Option Addr) (a1n a1c : Nat) (w : World) : (Instr.buildSlice 179 2 #[(0, (Value.slice a0a a0n a0c)), (1, (Value.slice a1a a1n a1c))]).run pG w = .ok (.slice (some ⟨w.heap.size, 0, none⟩) 2 2) (w.alloc (.cells [(Value.slice a0a a0n a0c), (Value.slice a1a a1n a1c)].toArray 137)) := by kernel_rfl
theorem c3p  : Pu pG (xV (Instr.build 108 #[])) (.agg #[(Value.int .i64 0), (Value.int .i64 0), (Value.int .i64 0)]) := Pu.ok fun w => by kernel_rfl
theorem b2o {g o : Nat} : Pu pG (xV (Instr.fieldAt 108 (.pointer (some ⟨g, o, none⟩)) 0)) (.pointer (some ⟨g, o + 0, none⟩)) := Pu.ok fun w => by kernel_rfl
theorem b5s {g o : Nat} : Pu pG (xV (Instr.fieldAt 108 (.pointer (some ⟨g, o, none⟩)) 1)) (.pointer (some ⟨g, o + 1, none⟩)) := Pu.ok fun w => by kernel_rfl
theorem b0k {g o : Nat} : Pu pG (xV (Instr.fieldAt 80 (.pointer (some ⟨g, o, none⟩)) 4)) (.pointer (some ⟨g, o + 4, none⟩)) := Pu.ok fun w => by kernel_rfl
theorem b3p {g o : Nat} : Pu pG (xV (Instr.fieldAt 80 (.pointer (some ⟨g, o, none⟩)) 0)) (.pointer (some ⟨g, o + 0, none⟩)) := Pu.ok fun w => by kernel_rfl
theorem b8Y (a0 : Int) (a1 : Int) : Pu pG (xV (Instr.build 83 #[(0, (Value.int .i64 a0)), (1, (Value.int .i64 a1))])) (.agg #[(Value.int .i64 a0), (Value.int .i64 a1)]) := Pu.ok fun w => by kernel_rfl
theorem b3q {g o : Nat} : Pu pG (xV (Instr.fieldAt 80 (.pointer (some ⟨g, o, none⟩)) 1)) (.pointer (some ⟨g, o + 1, none⟩)) := Pu.ok fun w => by kernel_rfl
abbrev t7 (x : d8) : List Value := [(Value.string x.d9), (Value.bool x.b0h)]
theorem a6B (x : d8) : (t7 x).length = 2 := rfl
theorem a6C (x : d8) : (t7 x).all (·.oneCell') = true := rfl
theorem c3q  : Pu pG (xV (Instr.build 101 #[])) (.agg #[(Value.int .i64 0), (Value.int .i64 0), (Value.int .i64 0), (Value.bool false), (Value.bool false), (Value.slice none 0 0)]) := Pu.ok fun w => by kernel_rfl
theorem b0l (a : Option Addr) (n c : Nat) : Pu pG (xBuiltin .len #[137] 3 [false] [.slice a n c]) (.int .i64 (n : Int)) := U0 Tryz.underlying137 a n c
theorem c4A {a : Option Addr} {g o : Nat} (ha : a = some ⟨g, o, none⟩) (len cap : Nat) (k : IntKind) (i : Int) (h0 : 0 ≤ i) (h1 : i < len) : Pu pG (xV (Instr.indexAt 137 (.slice a len cap) (.int k i))) (.pointer (some ⟨g, o + i.toNat * 1, none⟩)) := a1O Tryz.underlying137 Tryz.sizeOf150 ha len cap k i h0 h1
theorem b2p {g o : Nat} : Pu pG (xV (Instr.fieldAt 101 (.pointer (some ⟨g, o, none⟩)) 0)) (.pointer (some ⟨g, o + 0, none⟩)) := Pu.ok fun w => by kernel_rfl
theorem b5t {g o : Nat} : Pu pG (xV (Instr.fieldAt 101 (.pointer (some ⟨g, o, none⟩)) 1)) (.pointer (some ⟨g, o + 1, none⟩)) := Pu.ok fun w => by kernel_rfl
theorem b2q {g o : Nat} : Pu pG (xV (Instr.fieldAt 101 (.pointer (some ⟨g, o, none⟩)) 3)) (.pointer (some ⟨g, o + 3, none⟩)) := Pu.ok fun w => by kernel_rfl
theorem b2r {g o : Nat} : Pu pG (xV (Instr.fieldAt 101 (.pointer (some ⟨g, o, none⟩)) 4)) (.pointer (some ⟨g, o + 4, none⟩)) := Pu.ok fun w => by kernel_rfl
theorem b2s {g o : Nat} : Pu pG (xV (Instr.fieldAt 101 (.pointer (some ⟨g, o, none⟩)) 5)) (.pointer (some ⟨g, o + 5, none⟩)) := Pu.ok fun w => by kernel_rfl
theorem a6D : Pu pG (xV (Instr.build 177 #[(0, (Value.func (.func 149) #[] #[])), (1, (Value.func (.func 150) #[] #[])), (2, (Value.func (.func 151) #[] #[])), (3, (Value.func (.func 152) #[] #[])), (4, (Value.func (.func 153) #[] #[])), (5, (Value.func (.func 154) #[] #[])), (6, (Value.func (.func 155) #[] #[]))])) (.agg #[(Value.func (.func 149) #[] #[]), (Value.func (.func 150) #[] #[]), (Value.func (.func 151) #[] #[]), (Value.func (.func 152) #[] #[]), (Value.func (.func 153) #[] #[]), (Value.func (.func 154) #[] #[]), (Value.func (.func 155) #[] #[])]) := Pu.ok fun w => by kernel_rfl
theorem a0M (k : IntKind) (i : Int) (h0 : 0 ≤ i) (h1 : i < 7) : Pu pG (xV (Instr.index 177 (.agg #[(Value.func (.func 149) #[] #[]), (Value.func (.func 150) #[] #[]), (Value.func (.func 151) #[] #[]), (Value.func (.func 152) #[] #[]), (Value.func (.func 153) #[] #[]), (Value.func (.func 154) #[] #[]), (Value.func (.func 155) #[] #[])]) (.int k i))) (([(Value.func (.func 149) #[] #[]), (Value.func (.func 150) #[] #[]), (Value.func (.func 151) #[] #[]), (Value.func (.func 152) #[] #[]), (Value.func (.func 153) #[] #[]), (Value.func (.func 154) #[] #[]), (Value.func (.func 155) #[] #[])] : List Value).getD i.toNat undef) := by
  obtain rfl | rfl | rfl | rfl | rfl | rfl | rfl := (by omega : i = 0 ∨ i = 1 ∨ i = 2 ∨ i = 3 ∨ i = 4 ∨ i = 5 ∨ i = 6)
  · exact Pu.ok fun w => by kernel_rfl
  · exact Pu.ok fun w => by kernel_rfl
  · exact Pu.ok fun w => by kernel_rfl
  · exact Pu.ok fun w => by kernel_rfl
  · exact Pu.ok fun w => by kernel_rfl
  · exact Pu.ok fun w => by kernel_rfl
  · exact Pu.ok fun w => by kernel_rfl
theorem b6u (a : Option Addr) (n c : Nat) : Pu pG (xBuiltin .len #[179] 3 [false] [.slice a n c]) (.int .i64 (n : Int)) := U0 Tryz.underlying179 a n c
theorem b8z {a : Option Addr} {g o : Nat} (ha : a = some ⟨g, o, none⟩) (len cap : Nat) (k : IntKind) (i : Int) (h0 : 0 ≤ i) (h1 : i < len) : Pu pG (xV (Instr.indexAt 179 (.slice a len cap) (.int k i))) (.pointer (some ⟨g, o + i.toNat * 1, none⟩)) := a1O Tryz.underlying179 Tryz.sizeOf137 ha len cap k i h0 h1
theorem c4B (s : ByteArray) : Pu pG (xV (Instr.makeInterface 9 (.string s))) (.iface 9 (.string s)) := Pu.ok fun w => by kernel_rfl
theorem c2g : Tryz.prog.info? 150 = some ((Tryz.prog.info? 150).getD default) := by kernel_rfl
theorem b2I {E : Pan} {w0 w : World} {ps : Nat → Prop} {H0 H : Hp} {Fs : List Frag} {K : Value → World → Prop} {s : Sl} {xs : List f7} {F : Frag} {t2 : Sl} {ys : List f7} {ks : List Bool} {ty : TypeId} (I : Inv w0 ps H0 H (F :: Fs) w) (hr : RowL 150 1 z7 s xs F) (hs : SrcO w z7 t2 ys) (hb : (xs.length + ys.length) * 17 ≤ 140737488355328) (h : ∀ (s' : Sl) (F' : Frag) (w' : World), RowL 150 1 z7 s' (xs ++ ys) F' → Inv w0 ps H0 H (F' :: Fs) w' → (∀ k, k < w.heap.size → (∀ p ∈ F, p.1 ≠ k) → w'.heap[k]? = w.heap[k]?) → K (.slice s'.a s'.n s'.c) w') : opK pG E (xBuiltin .append #[137, 137] ty ks [.slice s.a s.n s.c, .slice t2.a t2.n t2.c]) w K :=
  b0g (bytes := 16) Tryz.underlying137 c2g (z := Value.nilIface) (by kernel_rfl) (by kernel_rfl) (by kernel_rfl) (by kernel_rfl) I hr hs hb h
theorem b9N (a1J : ByteArray) (a1K : Int) : Pu pG (xV (Instr.build 182 #[(0, (Value.agg #[(Value.string a1J), (Value.int .i64 a1K)]))])) (.agg #[(Value.string a1J), (Value.int .i64 a1K)]) := Pu.ok fun w => by kernel_rfl
theorem b7g (x : a0N) : Pu pG (xV (Instr.makeInterface 182 (.agg #[(Value.string x.a1y.d9), (Value.int .i64 x.a1y.A4)]))) (L2 (f7.O6 x)) := Pu.ok fun w => rfl
theorem b9O (a1J : Int) (a1K : ByteArray) (a0_2a : Option Addr) (a0_2n a0_2c : Nat) (a0_3a : Option Addr) (a0_3n a0_3c : Nat) (a0_4a : Option Addr) (a0_4n a0_4c : Nat) (a0_5a : Option Addr) (a0_5n a0_5c : Nat) : Pu pG (xV (Instr.build 184 #[(0, (Value.agg #[(Value.int .i64 a1J), (Value.string a1K), (Value.slice a0_2a a0_2n a0_2c), (Value.slice a0_3a a0_3n a0_3c), (Value.slice a0_4a a0_4n a0_4c), (Value.slice a0_5a a0_5n a0_5c)]))])) (.agg #[(Value.int .i64 a1J), (Value.string a1K), (Value.slice a0_2a a0_2n a0_2c), (Value.slice a0_3a a0_3n a0_3c), (Value.slice a0_4a a0_4n a0_4c), (Value.slice a0_5a a0_5n a0_5c)]) := Pu.ok fun w => by kernel_rfl
theorem b7h (x : V5) : Pu pG (xV (Instr.makeInterface 184 (.agg #[(Value.int .i64 x.m4.b7), (Value.string x.m4.d9), (Value.slice x.m4.m6.a x.m4.m6.n x.m4.m6.c), (Value.slice x.m4.y6.a x.m4.y6.n x.m4.y6.c), (Value.slice x.m4.K7.a x.m4.K7.n x.m4.K7.c), (Value.slice x.m4.L0.a x.m4.L0.n x.m4.L0.c)]))) (L2 (f7.L5 x)) := Pu.ok fun w => rfl
theorem b3r (s : ByteArray) : Pu pG (xBuiltin .len #[9] 3 [false] [.string s]) (.int .i64 (s.size : Int)) := c3h _ _ s Tryz.underlying9
theorem b2J (a0 : ByteArray) (a1 : Bool) : Pu pG (xV (Instr.build 133 #[(0, (Value.string a0)), (1, (Value.bool a1))])) (.agg #[(Value.string a0), (Value.bool a1)]) := Pu.ok fun w => by kernel_rfl
theorem b9P (a1J : ByteArray) (a1K : Bool) (w : World) : (Instr.buildSlice 130 1 #[(0, (Value.agg #[(Value.string a1J), (Value.bool a1K)]))]).run pG w = .ok (.slice (some ⟨w.heap.size, 0, none⟩) 1 1) (w.alloc (.cells [(Value.string a1J), (Value.bool a1K)].toArray 133)) := by kernel_rfl
theorem c8j : Tryz.prog.info? 133 = some ((Tryz.prog.info? 133).getD default) := by kernel_rfl
theorem c2h {E : Pan} {w0 w : World} {ps : Nat → Prop} {H0 H : Hp} {Fs : List Frag} {K : Value → World → Prop} {s : Sl} {xs : List d8} {F : Frag} {t2 : Sl} {ys : List d8} {ks : List Bool} {ty : TypeId} (I : Inv w0 ps H0 H (F :: Fs) w) (hr : RowL 133 2 t7 s xs F) (hs : SrcO w t7 t2 ys) (hb : (xs.length + ys.length) * 25 ≤ 140737488355328) (h : ∀ (s' : Sl) (F' : Frag) (w' : World), RowL 133 2 t7 s' (xs ++ ys) F' → Inv w0 ps H0 H (F' :: Fs) w' → (∀ k, k < w.heap.size → (∀ p ∈ F, p.1 ≠ k) → w'.heap[k]? = w.heap[k]?) → K (.slice s'.a s'.n s'.c) w') : opK pG E (xBuiltin .append #[130, 130] ty ks [.slice s.a s.n s.c, .slice t2.a t2.n t2.c]) w K :=
  b0g (bytes := 24) Tryz.underlying130 c8j (z := (Value.agg #[(Value.string ⟨#[]⟩), (Value.bool false)])) (by kernel_rfl) (by kernel_rfl) (by kernel_rfl) (by kernel_rfl) I hr hs hb h
theorem b2K (s : ByteArray) (k : IntKind) (i : Int) (h0 : 0 ≤ i) (h1 : i < s.size) : Pu pG (xV (Instr.index 9 (.string s) (.int k i))) (.int .u8 ((s.get! i.toNat).toNat : Int)) := b9u _ s k i Tryz.underlying9 h0 h1
theorem b4m (k : IntKind) (n : Int) : Pu pG (xV (convert 5 3 (.int k n))) (.int .i64 (IntKind.wrap .i64 n)) := Pu.ok fun w => run_convert_int (P := pG) (w := w) 5 3 k n (by rw [Tryz.underlying5]; rfl) Tryz.underlying3
theorem c2i (a0 : Int) (w : World) : (Instr.buildSlice 37 1 #[(0, (Value.int .i64 a0))]).run pG w = .ok (.slice (some ⟨w.heap.size, 0, none⟩) 1 1) (w.alloc (.cells [(Value.int .i64 a0)].toArray 2)) := by kernel_rfl
theorem b0m {g o : Nat} : Pu pG (xV (Instr.fieldAt 80 (.pointer (some ⟨g, o, none⟩)) 2)) (.pointer (some ⟨g, o + 2, none⟩)) := Pu.ok fun w => by kernel_rfl
theorem a8L {g o : Nat} : Pu pG (xV (Instr.fieldAt 80 (.pointer (some ⟨g, o, none⟩)) 3)) (.pointer (some ⟨g, o + 3, none⟩)) := Pu.ok fun w => by kernel_rfl
theorem b3s {g o : Nat} : Pu pG (xV (Instr.fieldAt 80 (.pointer (some ⟨g, o, none⟩)) 5)) (.pointer (some ⟨g, o + 5, none⟩)) := Pu.ok fun w => by kernel_rfl
theorem b9Q {a : Option Addr} {g o : Nat} (ha : a = some ⟨g, o, none⟩) (len cap : Nat) (k : IntKind) (i : Int) (h0 : 0 ≤ i) (h1 : i < len) : Pu pG (xV (Instr.indexAt 88 (.slice a len cap) (.int k i))) (.pointer (some ⟨g, o + i.toNat * 1, none⟩)) := a1O Tryz.underlying88 Tryz.sizeOf9 ha len cap k i h0 h1
theorem b8Z (x : f7) : Pu pG (xV (Instr.typeAssert (L2 x) 150 182 true)) (.tuple #[(Value.agg #[(Value.string ((((x.a1Y)).a1y).d9)), (Value.int .i64 ((((x.a1Y)).a1y).A4))]), .bool (x.a7a)]) := by
  cases x <;> exact Pu.ok fun w => by kernel_rfl
theorem b2t {g o : Nat} : Pu pG (xV (Instr.fieldAt 182 (.pointer (some ⟨g, o, none⟩)) 0)) (.pointer (some ⟨g, o + 0, none⟩)) := Pu.ok fun w => by kernel_rfl
theorem b9a (x : f7) : Pu pG (xV (Instr.typeAssert (L2 x) 150 184 true)) (.tuple #[(Value.agg #[(Value.int .i64 ((((x.y8)).m4).b7)), (Value.string ((((x.y8)).m4).d9)), (Value.slice ((((x.y8)).m4).m6).a ((((x.y8)).m4).m6).n ((((x.y8)).m4).m6).c), (Value.slice ((((x.y8)).m4).y6).a ((((x.y8)).m4).y6).n ((((x.y8)).m4).y6).c), (Value.slice ((((x.y8)).m4).K7).a ((((x.y8)).m4).K7).n ((((x.y8)).m4).K7).c), (Value.slice ((((x.y8)).m4).L0).a ((((x.y8)).m4).L0).n ((((x.y8)).m4).L0).c)]), .bool (x.a7b)]) := by
  cases x <;> exact Pu.ok fun w => by kernel_rfl
theorem Q8 {g o : Nat} : Pu pG (xV (Instr.fieldAt 184 (.pointer (some ⟨g, o, none⟩)) 0)) (.pointer (some ⟨g, o + 0, none⟩)) := Pu.ok fun w => by kernel_rfl
theorem b9b (x : f7) : Pu pG (xV (Instr.typeAssert (L2 x) 150 136 true)) (.tuple #[(Value.agg #[(Value.int .i64 ((((x.E0)).z6).b7)), (Value.int .i64 ((((x.E0)).z6).C9)), (Value.string ((((x.E0)).z6).d9)), (Value.slice ((((x.E0)).z6).z8).a ((((x.E0)).z6).z8).n ((((x.E0)).z6).z8).c)]), .bool (x.a6Z)]) := by
  cases x <;> exact Pu.ok fun w => by kernel_rfl
theorem a2o {g o : Nat} : Pu pG (xV (Instr.fieldAt 136 (.pointer (some ⟨g, o, none⟩)) 0)) (.pointer (some ⟨g, o + 0, none⟩)) := Pu.ok fun w => by kernel_rfl
theorem b5u (k : IntKind) (n : Int) : Pu pG (xV (convert 2 200 (.int k n))) (.int .u64 (IntKind.wrap .u64 n)) := Pu.ok fun w => run_convert_int (P := pG) (w := w) 2 200 k n (by rw [Tryz.underlying2]; rfl) Tryz.underlying200
theorem a3s {g o : Nat} : Pu pG (xV (Instr.fieldAt 143 (.pointer (some ⟨g, o, none⟩)) 0)) (.pointer (some ⟨g, o + 0, none⟩)) := Pu.ok fun w => by kernel_rfl
theorem a7d (a0 : Int) (a1 : Int) : Pu pG (xV (Instr.build 236 #[(0, (Value.int .i64 a0)), (1, (Value.int .i64 a1))])) (.agg #[(Value.int .i64 a0), (Value.int .i64 a1)]) := Pu.ok fun w => by kernel_rfl
theorem c8k (d : Nat) (a0 b0 : Int) (a1 b1 : Int) (w : World) : (Op.equalIn (d + 2) 236 (.agg #[(Value.int .i64 a0), (Value.int .i64 a1)]) (.agg #[(Value.int .i64 b0), (Value.int .i64 b1)])).run pG w = .ok (decide (a0 = b0 ∧ a1 = b1)) w := by
  have u3 := Tryz.underlying3
  have i3 := Tryz.isAgg3
  have s3 := Tryz.sizeOf3
  have hS : Tryz.prog.underlying 236 = some (.struct (Tryz.prog.fieldsOf 236)) := by kernel_rfl
  rw [run_equalIn_agg w (d + 1) 236 _ _ hS (by kernel_rfl)]
  simp only [Program.fieldsOf, Tryz.underlying236]
  go_simp
  try simp only [b5D]
  by_cases h0 : a0 = b0
  · by_cases h1 : a1 = b1
    · simp [h0, h1]
    · simp [h0, h1]
  · simp [h0]
theorem b2b (x y : Operand) (a0 b0 : Int) (a1 b1 : Int) : Pu pG (xBin .eql 236 x y (.agg #[(Value.int .i64 a0), (Value.int .i64 a1)]) (.agg #[(Value.int .i64 b0), (Value.int .i64 b1)])) (.bool (decide (a0 = b0 ∧ a1 = b1))) := by
  refine Pu.ok (s := do eqGuard .eql 236 x y (.agg #[(Value.int .i64 a0), (Value.int .i64 a1)]) (.agg #[(Value.int .i64 b0), (Value.int .i64 b1)]); binOp .eql 236 (.agg #[(Value.int .i64 a0), (Value.int .i64 a1)]) (.agg #[(Value.int .i64 b0), (Value.int .i64 b1)])) fun w => ?_
  rw [Sem.run_bind, run_eqGuard_agg w _ _ _ _ _ _ (by kernel_rfl), Result.andThen_ok, run_eql_struct, show (10000 : Nat) = 9998 + 2 from rfl, c8k]
  rfl
theorem c3r  : Pu pG (xV (Instr.build 236 #[])) (.agg #[(Value.int .i64 0), (Value.int .i64 0)]) := Pu.ok fun w => by kernel_rfl
theorem a4o (a0 : Int) (a1 : Int) : Pu pG (xV (Instr.build 240 #[(0, (Value.int .i64 a0)), (1, (Value.int .i64 a1))])) (.agg #[(Value.int .i64 a0), (Value.int .i64 a1)]) := Pu.ok fun w => by kernel_rfl
theorem c8l (d : Nat) (a0 b0 : Int) (a1 b1 : Int) (w : World) : (Op.equalIn (d + 2) 240 (.agg #[(Value.int .i64 a0), (Value.int .i64 a1)]) (.agg #[(Value.int .i64 b0), (Value.int .i64 b1)])).run pG w = .ok (decide (a0 = b0 ∧ a1 = b1)) w := by
  have u3 := Tryz.underlying3
  have i3 := Tryz.isAgg3
  have s3 := Tryz.sizeOf3
  have hS : Tryz.prog.underlying 240 = some (.struct (Tryz.prog.fieldsOf 240)) := by kernel_rfl
  rw [run_equalIn_agg w (d + 1) 240 _ _ hS (by kernel_rfl)]
  simp only [Program.fieldsOf, Tryz.underlying240]
  go_simp
  try simp only [b5D]
  by_cases h0 : a0 = b0
  · by_cases h1 : a1 = b1
    · simp [h0, h1]
    · simp [h0, h1]
  · simp [h0]
theorem a8s (x y : Operand) (a0 b0 : Int) (a1 b1 : Int) : Pu pG (xBin .eql 240 x y (.agg #[(Value.int .i64 a0), (Value.int .i64 a1)]) (.agg #[(Value.int .i64 b0), (Value.int .i64 b1)])) (.bool (decide (a0 = b0 ∧ a1 = b1))) := by
  refine Pu.ok (s := do eqGuard .eql 240 x y (.agg #[(Value.int .i64 a0), (Value.int .i64 a1)]) (.agg #[(Value.int .i64 b0), (Value.int .i64 b1)]); binOp .eql 240 (.agg #[(Value.int .i64 a0), (Value.int .i64 a1)]) (.agg #[(Value.int .i64 b0), (Value.int .i64 b1)])) fun w => ?_
  rw [Sem.run_bind, run_eqGuard_agg w _ _ _ _ _ _ (by kernel_rfl), Result.andThen_ok, run_eql_struct, show (10000 : Nat) = 9998 + 2 from rfl, c8l]
  rfl
theorem c3s  : Pu pG (xV (Instr.build 240 #[])) (.agg #[(Value.int .i64 0), (Value.int .i64 0)]) := Pu.ok fun w => by kernel_rfl
theorem c6s (a0a : Option Addr) (a0n a0c : Nat) (a1a : Option Addr) (a1n a1c : Nat) (a2a : Option Addr) (a2n a2c : Nat) (a3a : Option Addr) (a3n a3c : Nat) (w : World) : (Instr.buildSlice 179 4 #[(0, (Value.slice a0a a0n a0c)), (1, (Value.slice a1a a1n a1c)), (2, (Value.slice a2a a2n a2c)), (3, (Value.slice a3a a3n a3c))]).run pG w = .ok (.slice (some ⟨w.heap.size, 0, none⟩) 4 4) (w.alloc (.cells [(Value.slice a0a a0n a0c), (Value.slice a1a a1n a1c), (Value.slice a2a a2n a2c), (Value.slice a3a a3n a3c)].toArray 137)) := by kernel_rfl
abbrev q7 (x : o3) : List Value := [(Value.slice x.D9.a x.D9.n x.D9.c), (Value.slice x.a2f.a x.a2f.n x.a2f.c)]
abbrev m9 (x : i5) : List Value := [(Value.int .i64 x.u6), (Value.int .i64 x.u1), (Value.int .i64 x.s7), (Value.slice x.Q6.a x.Q6.n x.Q6.c), (Value.slice x.a5D.a x.a5D.n x.a5D.c), (Value.slice x.O9.a x.O9.n x.O9.c)]
abbrev b2L (x : p8) : List Value := [(Value.int .i64 x.fnodes), (Value.int .i64 x.fdepth), (Value.int .i64 x.fe), (Value.bool x.fform), (Value.bool x.fnamed), (Value.slice x.fnames.a x.fnames.n x.fnames.c)]
abbrev p5 (x : d6) : List Value := [(Value.int .i64 x.fn), (Value.int .i64 x.fdepth), (Value.int .i64 x.fbad)]
abbrev p7 (x : b9) : List Value := [(Value.bool x.fok), (Value.bool x.fnames)]
end Go.Proofs.YtnhkdkcgdcgmdaaGreatDoor
