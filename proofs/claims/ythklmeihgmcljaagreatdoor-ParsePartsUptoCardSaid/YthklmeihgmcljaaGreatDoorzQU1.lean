/- Single operations at this program's types, and its structures; printed by lift.py. -/
import Derived.KernelRfl
import Derived.Laws.StructEq
import Derived.Laws.Cover2
import Derived.Test.YthklmeihgmcljaaGreatDoorzQS5
import Derived.Test.YthklmeihgmcljaaGreatDoorzQGz
namespace Go.Proofs.YthklmeihgmcljaaGreatDoor
open Go.RowKit
set_option maxRecDepth 100000
set_option maxHeartbeats 2000000
structure p6 where
  a7c:Sl
  a6h:Sl
structure b7 where
  o8:Int
  s6:Int
structure d6 where
  d8:Int
  F0:Int
  A8:ByteArray
  B1:Sl
structure c8 where
  d8:Int
  fOp:Int
  o0:Sl
  t7:Sl
structure j9 where
  d8:Int
  A8:ByteArray
  o0:Sl
  C3:Sl
  R8:Sl
  Q2:Sl
structure b8 where
  fl:Sl
  fat:Int
  fbad:Int
  fpos:b7
structure b6 where
  d8:Int
  A0:ByteArray
  F0:Int
  fAt:b7
structure p5 where
  A8:ByteArray
  a6T:Int
structure z1 where
  f0:ByteArray
  f1:ByteArray
  f2:ByteArray
  f3:ByteArray
  f4:ByteArray
  f5:ByteArray
structure p1 where
  fnodes:Int
  fdepth:Int
  fe:Int
  fform:Bool
  fnamed:Bool
  fnames:Sl
structure a8 where
  fl:Sl
  fn:Int
structure c9E where
  fat:b7
  fe:Int
structure m7 where
  fn:Int
  fdepth:Int
  fbad:Int
structure i8 where
  fok:Bool
  fnames:Bool
structure L8 where
  y1:d6
structure Q5 where
  s8:c8
structure g8 where
  fs:ByteArray
  fn:Int
  fat:b7
  fl:Sl
structure a0L where
  a0Y:p5
structure X2 where
  m8:j9
structure a3g where
  fsigns:Sl
  fkinds:Sl
  fpart:Value
structure O1 where
  f0:ByteArray
  f1:ByteArray
  f2:ByteArray
  f3:ByteArray
  f4:ByteArray
  f5:ByteArray
  f6:ByteArray
structure M0 where
  fexprs:Int
  fparts:Int
structure T3 where
  fexprs:Int
  fconds:Int
abbrev u6 (x:g8) (s0:Sl):List Value:=[(Value.string x.fs),(vi x.fn),(vi x.fat.o8),(vi x.fat.s6),(vs s0)]
abbrev u1 (x:g8):g8:=g8.mk x.fs x.fn x.fat (Sl.mk none 0 0)
abbrev a2A (x:p1) (s0:Sl):List Value:=[(vi x.fnodes),(vi x.fdepth),(vi x.fe),(Value.bool x.fform),(Value.bool x.fnamed),(vs s0)]
abbrev a1V (x:p1):p1:=p1.mk x.fnodes x.fdepth x.fe x.fform x.fnamed (Sl.mk none 0 0)
inductive g9 where
  | nil
  | H7 (x:L8)
  | N4 (x:Q5)
  | O4 (x:a0L)
  | L6 (x:X2)
def L1:g9→Value
  | .nil=>.nilIface
  | .H7 x=>.iface 141 (.agg #[(Value.int .i64 x.y1.d8),(Value.int .i64 x.y1.F0),(Value.string x.y1.A8),(Value.slice x.y1.B1.a x.y1.B1.n x.y1.B1.c)])
  | .N4 x=>.iface 146 (.agg #[(Value.int .i64 x.s8.d8),(Value.int .i64 x.s8.fOp),(Value.slice x.s8.o0.a x.s8.o0.n x.s8.o0.c),(Value.slice x.s8.t7.a x.s8.t7.n x.s8.t7.c)])
  | .O4 x=>.iface 175 (.agg #[(Value.string x.a0Y.A8),(Value.int .i64 x.a0Y.a6T)])
  | .L6 x=>.iface 177 (.agg #[(Value.int .i64 x.m8.d8),(Value.string x.m8.A8),(Value.slice x.m8.o0.a x.m8.o0.n x.m8.o0.c),(Value.slice x.m8.C3.a x.m8.C3.n x.m8.C3.c),(Value.slice x.m8.R8.a x.m8.R8.n x.m8.R8.c),(Value.slice x.m8.Q2.a x.m8.Q2.n x.m8.Q2.c)])
theorem b8p (x:g9):[L1 x].all (·.oneCell')=true:=by cases x<;>rfl
def g9.E4:g9→L8
  | .H7 x=>x
  | _=>(L8.mk (d6.mk 0 0 ⟨#[]⟩ (Sl.mk none 0 0)))
def g9.a7A:g9→Bool
  | .H7 _=>true
  | _=>false
def g9.a1C:g9→a0L
  | .O4 x=>x
  | _=>(a0L.mk (p5.mk ⟨#[]⟩ 0))
def g9.a7B:g9→Bool
  | .O4 _=>true
  | _=>false
def g9.u5:g9→X2
  | .L6 x=>x
  | _=>(X2.mk (j9.mk 0 ⟨#[]⟩ (Sl.mk none 0 0) (Sl.mk none 0 0) (Sl.mk none 0 0) (Sl.mk none 0 0)))
def g9.a7C:g9→Bool
  | .L6 _=>true
  | _=>false
theorem c3v (d:Nat) (a0 b0:Int) (a1 b1:Int) (w:World):(Op.equalIn (d+2) 28 (.agg #[(Value.int .i64 a0),(Value.int .i64 a1)]) (.agg #[(Value.int .i64 b0),(Value.int .i64 b1)])).run pG w=.ok (decide (a0=b0∧a1=b1)) w:=by
  have u3:=Tryz.underlying3
  have i3:=Tryz.isAgg3
  have s3:=Tryz.sizeOf3
  have hS:Tryz.prog.underlying 28=some (.struct (Tryz.prog.fieldsOf 28)):=by kernel_rfl
  rw [run_equalIn_agg w (d+1) 28 _ _ hS (by kernel_rfl)]
  simp only [Program.fieldsOf,Tryz.underlying28]
  go_simp
  try simp only [b5x]
  by_cases h0:a0=b0
  · by_cases h1:a1=b1
    · simp [h0,h1]
    · simp [h0,h1]
  · simp [h0]
theorem b8O (x y:Operand) (a0 b0:Int) (a1 b1:Int):Pu pG (xBin .eql 28 x y (.agg #[(Value.int .i64 a0),(Value.int .i64 a1)]) (.agg #[(Value.int .i64 b0),(Value.int .i64 b1)])) (.bool (decide (a0=b0∧a1=b1))):=by
  refine Pu.ok (s:=do eqGuard .eql 28 x y (.agg #[(Value.int .i64 a0),(Value.int .i64 a1)]) (.agg #[(Value.int .i64 b0),(Value.int .i64 b1)]);binOp .eql 28 (.agg #[(Value.int .i64 a0),(Value.int .i64 a1)]) (.agg #[(Value.int .i64 b0),(Value.int .i64 b1)])) fun w=>?_
  rw [Sem.run_bind,run_eqGuard_agg w _ _ _ _ _ _ (by kernel_rfl),Result.andThen_ok,run_eql_struct,show (10000:Nat)=9998+2 from rfl,c3v]
  rfl
theorem c5l (x y:Operand) (a0 b0:Int) (a1 b1:Int):Pu pG (xBin .neq 28 x y (.agg #[(Value.int .i64 a0),(Value.int .i64 a1)]) (.agg #[(Value.int .i64 b0),(Value.int .i64 b1)])) (.bool (!decide (a0=b0∧a1=b1))):=by
  refine Pu.ok (s:=do eqGuard .neq 28 x y (.agg #[(Value.int .i64 a0),(Value.int .i64 a1)]) (.agg #[(Value.int .i64 b0),(Value.int .i64 b1)]);binOp .neq 28 (.agg #[(Value.int .i64 a0),(Value.int .i64 a1)]) (.agg #[(Value.int .i64 b0),(Value.int .i64 b1)])) fun w=>?_
  rw [Sem.run_bind,run_eqGuard_agg w _ _ _ _ _ _ (by kernel_rfl),Result.andThen_ok,run_neq_struct,show (10000:Nat)=9998+2 from rfl,c3v]
  rfl
theorem b0D {g o:Nat}:Pu pG (xV (Instr.fieldAt 26 (.pointer (some ⟨g,o,none⟩)) 0)) (.pointer (some ⟨g,o+0,none⟩)):=Pu.ok fun w=>by kernel_rfl
theorem b7I (a:Option Addr) (n c:Nat):Pu pG (xBuiltin .len #[23] 3 [false] [.slice a n c]) (.int .i64 (n:Int)):=a1U Tryz.underlying23 a n c
theorem a7D {g o:Nat}:Pu pG (xV (Instr.fieldAt 26 (.pointer (some ⟨g,o,none⟩)) 1)) (.pointer (some ⟨g,o+1,none⟩)):=Pu.ok fun w=>by kernel_rfl
theorem a9Z (a:Option Addr) (n c:Nat):Pu pG (xBuiltin .len #[24] 3 [false] [.slice a n c]) (.int .i64 (n:Int)):=a1U Tryz.underlying24 a n c
theorem b0a  : Pu pG (xV (Instr.build 28 #[])) (.agg #[(Value.int .i64 0),(Value.int .i64 0)]):=Pu.ok fun w=>by kernel_rfl
theorem X3 (s:ByteArray):Pu pG (xBuiltin .len #[9] 3 [false] [.string s]) (.int .i64 (s.size:Int)):=c2t _ _ s Tryz.underlying9
theorem a6y (a0:Int) (a1:Int):Pu pG (xV (Instr.build 28 #[(0,(Value.int .i64 a0)),(1,(Value.int .i64 a1))])) (.agg #[(Value.int .i64 a0),(Value.int .i64 a1)]):=Pu.ok fun w=>by kernel_rfl
theorem a1p {g o:Nat}:Pu pG (xV (Instr.fieldAt 40 (.pointer (some ⟨g,o,none⟩)) 0)) (.pointer (some ⟨g,o+0,none⟩)):=Pu.ok fun w=>by kernel_rfl
theorem a0M {g o:Nat}:Pu pG (xV (Instr.fieldAt 40 (.pointer (some ⟨g,o,none⟩)) 3)) (.pointer (some ⟨g,o+3,none⟩)):=Pu.ok fun w=>by kernel_rfl
theorem T0 (a:Option Addr) (n c:Nat):Pu pG (xBuiltin .len #[38] 3 [false] [.slice a n c]) (.int .i64 (n:Int)):=a1U Tryz.underlying38 a n c
theorem a5F {a:Option Addr} {g o:Nat} (ha:a=some ⟨g,o,none⟩) (len cap:Nat) (k:IntKind) (i:Int) (h0:0≤i) (h1:i < len):Pu pG (xV (Instr.indexAt 38 (.slice a len cap) (.int k i))) (.pointer (some ⟨g,o+i.toNat*4,none⟩)):=a3R Tryz.underlying38 Tryz.sizeOf40 ha len cap k i h0 h1
theorem a7E {g o:Nat}:Pu pG (xV (Instr.fieldAt 40 (.pointer (some ⟨g,o,none⟩)) 1)) (.pointer (some ⟨g,o+1,none⟩)):=Pu.ok fun w=>by kernel_rfl
theorem a6i {g o:Nat}:Pu pG (xV (Instr.fieldAt 49 (.pointer (some ⟨g,o,none⟩)) 0)) (.pointer (some ⟨g,o+0,none⟩)):=Pu.ok fun w=>by kernel_rfl
theorem a0N {g o:Nat}:Pu pG (xV (Instr.fieldAt 49 (.pointer (some ⟨g,o,none⟩)) 3)) (.pointer (some ⟨g,o+3,none⟩)):=Pu.ok fun w=>by kernel_rfl
theorem a4c (a:Option Addr) (n c:Nat):Pu pG (xBuiltin .len #[47] 3 [false] [.slice a n c]) (.int .i64 (n:Int)):=a1U Tryz.underlying47 a n c
theorem a0O {g o:Nat}:Pu pG (xV (Instr.fieldAt 49 (.pointer (some ⟨g,o,none⟩)) 2)) (.pointer (some ⟨g,o+2,none⟩)):=Pu.ok fun w=>by kernel_rfl
theorem b5y {a:Option Addr} {g o:Nat} (ha:a=some ⟨g,o,none⟩) (len cap:Nat) (k:IntKind) (i:Int) (h0:0≤i) (h1:i < len):Pu pG (xV (Instr.indexAt 24 (.slice a len cap) (.int k i))) (.pointer (some ⟨g,o+i.toNat*6,none⟩)):=a3R Tryz.underlying24 Tryz.sizeOf56 ha len cap k i h0 h1
theorem a5q {g o:Nat}:Pu pG (xV (Instr.fieldAt 56 (.pointer (some ⟨g,o,none⟩)) 2)) (.pointer (some ⟨g,o+2,none⟩)):=Pu.ok fun w=>by kernel_rfl
theorem b5j (a0a:Option Addr) (a0n a0c:Nat):Pu pG (xV (Instr.build 66 #[(0,(Value.slice a0a a0n a0c))])) (.agg #[(Value.slice a0a a0n a0c),(Value.int .i64 0),(Value.int .i64 0),(Value.int .i64 0),(Value.int .i64 0)]):=Pu.ok fun w=>by kernel_rfl
theorem a3S {g o:Nat}:Pu pG (xV (Instr.fieldAt 66 (.pointer (some ⟨g,o,none⟩)) 2)) (.pointer (some ⟨g,o+2,none⟩)):=Pu.ok fun w=>by kernel_rfl
theorem a8O {g o:Nat}:Pu pG (xV (Instr.fieldAt 66 (.pointer (some ⟨g,o,none⟩)) 0)) (.pointer (some ⟨g,o+0,none⟩)):=Pu.ok fun w=>by kernel_rfl
theorem a1W {g o:Nat}:Pu pG (xV (Instr.fieldAt 66 (.pointer (some ⟨g,o,none⟩)) 1)) (.pointer (some ⟨g,o+1,none⟩)):=Pu.ok fun w=>by kernel_rfl
theorem b2J {a:Option Addr} {g o:Nat} (ha:a=some ⟨g,o,none⟩) (len cap:Nat) (k:IntKind) (i:Int) (h0:0≤i) (h1:i < len):Pu pG (xV (Instr.indexAt 61 (.slice a len cap) (.int k i))) (.pointer (some ⟨g,o+i.toNat*5,none⟩)):=a3R Tryz.underlying61 Tryz.sizeOf103 ha len cap k i h0 h1
theorem a0I {g o:Nat}:Pu pG (xV (Instr.fieldAt 103 (.pointer (some ⟨g,o,none⟩)) 0)) (.pointer (some ⟨g,o+0,none⟩)):=Pu.ok fun w=>by kernel_rfl
theorem R3 {g o:Nat}:Pu pG (xV (Instr.fieldAt 103 (.pointer (some ⟨g,o,none⟩)) 1)) (.pointer (some ⟨g,o+1,none⟩)):=Pu.ok fun w=>by kernel_rfl
theorem b1d {a0 a1 a2 a3 a4:Value}:Pu pG (xV (Instr.field 103 (.agg #[a0,a1,a2,a3,a4]) 3)) (.agg #[a3,a4]):=Pu.ok fun w=>by kernel_rfl
theorem b5Q {g o:Nat}:Pu pG (xV (Instr.fieldAt 66 (.pointer (some ⟨g,o,none⟩)) 3)) (.pointer (some ⟨g,o+3,none⟩)):=Pu.ok fun w=>by kernel_rfl
theorem c0O (a0:ByteArray):Pu pG (xV (Instr.build 68 #[(0,(Value.string a0))])) (.agg #[(Value.string a0),(Value.int .i64 0)]):=Pu.ok fun w=>by kernel_rfl
theorem a8c {g o:Nat}:Pu pG (xV (Instr.fieldAt 103 (.pointer (some ⟨g,o,none⟩)) 2)) (.pointer (some ⟨g,o+2,none⟩)):=Pu.ok fun w=>by kernel_rfl
theorem b2K {g o:Nat}:Pu pG (xV (Instr.fieldAt 68 (.pointer (some ⟨g,o,none⟩)) 1)) (.pointer (some ⟨g,o+1,none⟩)):=Pu.ok fun w=>by kernel_rfl
abbrev C1 (x:p5):List Value:=[(Value.string x.A8),(Value.int .i64 x.a6T)]
theorem b3r (x:p5):(C1 x).length=2:=rfl
theorem b3s (x:p5):(C1 x).all (·.oneCell')=true:=rfl
theorem c7l (a0D:ByteArray) (a0E:Int) (w:World):(Instr.buildSlice 23 1 #[(0,(Value.agg #[(Value.string a0D),(Value.int .i64 a0E)]))]).run pG w=.ok (.slice (some ⟨w.heap.size,0,none⟩) 1 1) (w.alloc (.cells [(Value.string a0D),(Value.int .i64 a0E)].toArray 68)):=by kernel_rfl
theorem c9F:Tryz.prog.info? 68=some ((Tryz.prog.info? 68).getD default):=by kernel_rfl
theorem c9G {E:Pan} {w0 w:World} {ps:Nat→Prop} {H0 H:Hp} {Fs:List Frag} {K:Value→World→Prop} {s:Sl} {xs:List p5} {F:Frag} {t2:Sl} {ys:List p5} {ks:List Bool} {ty:TypeId} (I:Inv w0 ps H0 H (F::Fs) w) (hr:RowL 68 2 C1 s xs F) (hs:SrcO w C1 t2 ys) (hb:(xs.length+ys.length)*25≤140737488355328) (h:∀(s':Sl) (F':Frag) (w':World),RowL 68 2 C1 s' (xs++ys) F'→Inv w0 ps H0 H (F'::Fs) w'→(∀k,k < w.heap.size→(∀p∈F,p.1≠k)→w'.heap[k]? = w.heap[k]?)→K (.slice s'.a s'.n s'.c) w'):opK pG E (xBuiltin .append #[23,23] ty ks [.slice s.a s.n s.c,.slice t2.a t2.n t2.c]) w K:=
  b4q (bytes:=24) Tryz.underlying23 c9F (z:=(Value.agg #[(Value.string ⟨#[]⟩),(Value.int .i64 0)])) (by kernel_rfl) (by kernel_rfl) (by kernel_rfl) (by kernel_rfl) I hr hs hb h
theorem a7d {a0 a1 a2 a3 a4:Value}:Pu pG (xV (Instr.field 103 (.agg #[a0,a1,a2,a3,a4]) 0)) a0:=Pu.ok fun w=>by kernel_rfl
theorem a8s  : Pu pG (xV (Instr.build 49 #[])) (.agg #[(Value.int .i64 0),(Value.int .i64 0),(Value.slice none 0 0),(Value.slice none 0 0)]):=Pu.ok fun w=>by kernel_rfl
theorem a9N (a0:Int):Pu pG (xV (Instr.build 49 #[(0,(Value.int .i64 a0))])) (.agg #[(Value.int .i64 a0),(Value.int .i64 0),(Value.slice none 0 0),(Value.slice none 0 0)]):=Pu.ok fun w=>by kernel_rfl
abbrev f7 (x:c8):List Value:=[(Value.int .i64 x.d8),(Value.int .i64 x.fOp),(Value.slice x.o0.a x.o0.n x.o0.c),(Value.slice x.t7.a x.t7.n x.t7.c)]
theorem V7 (x:c8):(f7 x).length=4:=rfl
theorem V8 (x:c8):(f7 x).all (·.oneCell')=true:=rfl
theorem b0R (a0D:Int) (a0E:Int) (a0_2a:Option Addr) (a0_2n a0_2c:Nat) (a0_3a:Option Addr) (a0_3n a0_3c:Nat) (w:World):(Instr.buildSlice 47 1 #[(0,(Value.agg #[(Value.int .i64 a0D),(Value.int .i64 a0E),(Value.slice a0_2a a0_2n a0_2c),(Value.slice a0_3a a0_3n a0_3c)]))]).run pG w=.ok (.slice (some ⟨w.heap.size,0,none⟩) 1 1) (w.alloc (.cells [(Value.int .i64 a0D),(Value.int .i64 a0E),(Value.slice a0_2a a0_2n a0_2c),(Value.slice a0_3a a0_3n a0_3c)].toArray 49)):=by kernel_rfl
theorem a6z (a0:Int) (a3a:Option Addr) (a3n a3c:Nat):Pu pG (xV (Instr.build 49 #[(0,(Value.int .i64 a0)),(3,(Value.slice a3a a3n a3c))])) (.agg #[(Value.int .i64 a0),(Value.int .i64 0),(Value.slice none 0 0),(Value.slice a3a a3n a3c)]):=Pu.ok fun w=>by kernel_rfl
theorem b0b  : Pu pG (xV (Instr.build 40 #[])) (.agg #[(Value.int .i64 0),(Value.int .i64 0),(Value.string ⟨#[]⟩),(Value.slice none 0 0)]):=Pu.ok fun w=>by kernel_rfl
abbrev d7 (x:d6):List Value:=[(Value.int .i64 x.d8),(Value.int .i64 x.F0),(Value.string x.A8),(Value.slice x.B1.a x.B1.n x.B1.c)]
theorem N2 (x:d6):(d7 x).length=4:=rfl
theorem N3 (x:d6):(d7 x).all (·.oneCell')=true:=rfl
theorem b0S (a0D:Int) (a0E:Int) (b1e:ByteArray) (a0_3a:Option Addr) (a0_3n a0_3c:Nat) (w:World):(Instr.buildSlice 38 1 #[(0,(Value.agg #[(Value.int .i64 a0D),(Value.int .i64 a0E),(Value.string b1e),(Value.slice a0_3a a0_3n a0_3c)]))]).run pG w=.ok (.slice (some ⟨w.heap.size,0,none⟩) 1 1) (w.alloc (.cells [(Value.int .i64 a0D),(Value.int .i64 a0E),(Value.string b1e),(Value.slice a0_3a a0_3n a0_3c)].toArray 40)):=by kernel_rfl
theorem a6A (a0:Int) (a3a:Option Addr) (a3n a3c:Nat):Pu pG (xV (Instr.build 40 #[(0,(Value.int .i64 a0)),(3,(Value.slice a3a a3n a3c))])) (.agg #[(Value.int .i64 a0),(Value.int .i64 0),(Value.string ⟨#[]⟩),(Value.slice a3a a3n a3c)]):=Pu.ok fun w=>by kernel_rfl
theorem b5k (a0:Int):Pu pG (xV (Instr.build 40 #[(0,(Value.int .i64 a0))])) (.agg #[(Value.int .i64 a0),(Value.int .i64 0),(Value.string ⟨#[]⟩),(Value.slice none 0 0)]):=Pu.ok fun w=>by kernel_rfl
theorem b3t (a0:Int) (a1:Int):Pu pG (xV (Instr.build 40 #[(0,(Value.int .i64 a0)),(1,(Value.int .i64 a1))])) (.agg #[(Value.int .i64 a0),(Value.int .i64 a1),(Value.string ⟨#[]⟩),(Value.slice none 0 0)]):=Pu.ok fun w=>by kernel_rfl
theorem b1M (a0:Int) (a2:ByteArray) (a3a:Option Addr) (a3n a3c:Nat):Pu pG (xV (Instr.build 40 #[(0,(Value.int .i64 a0)),(2,(Value.string a2)),(3,(Value.slice a3a a3n a3c))])) (.agg #[(Value.int .i64 a0),(Value.int .i64 0),(Value.string a2),(Value.slice a3a a3n a3c)]):=Pu.ok fun w=>by kernel_rfl
theorem b3u (a0:Int) (a2:ByteArray):Pu pG (xV (Instr.build 40 #[(0,(Value.int .i64 a0)),(2,(Value.string a2))])) (.agg #[(Value.int .i64 a0),(Value.int .i64 0),(Value.string a2),(Value.slice none 0 0)]):=Pu.ok fun w=>by kernel_rfl
theorem b2m (a0D:Int) (a0E:Int) (b1e:ByteArray) (a0_3a:Option Addr) (a0_3n a0_3c:Nat) (b8P:Int) (b8Q:Int) (c9H:ByteArray) (a1_3a:Option Addr) (a1_3n a1_3c:Nat) (w:World):(Instr.buildSlice 38 2 #[(0,(Value.agg #[(Value.int .i64 a0D),(Value.int .i64 a0E),(Value.string b1e),(Value.slice a0_3a a0_3n a0_3c)])),(1,(Value.agg #[(Value.int .i64 b8P),(Value.int .i64 b8Q),(Value.string c9H),(Value.slice a1_3a a1_3n a1_3c)]))]).run pG w=.ok (.slice (some ⟨w.heap.size,0,none⟩) 2 2) (w.alloc (.cells [(Value.int .i64 a0D),(Value.int .i64 a0E),(Value.string b1e),(Value.slice a0_3a a0_3n a0_3c),(Value.int .i64 b8P),(Value.int .i64 b8Q),(Value.string c9H),(Value.slice a1_3a a1_3n a1_3c)].toArray 40)):=by kernel_rfl
theorem a8d (a0 a1 a2 a3 a4 a5:ByteArray):Pu pG (xV (Instr.build 203 #[(0,.string a0),(1,.string a1),(2,.string a2),(3,.string a3),(4,.string a4),(5,.string a5)])) (.agg #[.string a0,.string a1,.string a2,.string a3,.string a4,.string a5]):=Pu.ok fun w=>by kernel_rfl
theorem c2x {g o:Nat} (k:IntKind) (i:Int) (h0:0≤i) (h1:i < 6):Pu pG (xV (Instr.indexAt 203 (.pointer (some ⟨g,o,none⟩)) (.int k i))) (.pointer (some ⟨g,o+i.toNat*1,none⟩)):=c0N Tryz.underlying203 Tryz.sizeOf9 k i h0 h1
theorem b1N (a0:Int) (a1:Int) (a2a:Option Addr) (a2n a2c:Nat):Pu pG (xV (Instr.build 49 #[(0,(Value.int .i64 a0)),(1,(Value.int .i64 a1)),(2,(Value.slice a2a a2n a2c))])) (.agg #[(Value.int .i64 a0),(Value.int .i64 a1),(Value.slice a2a a2n a2c),(Value.slice none 0 0)]):=Pu.ok fun w=>by kernel_rfl
theorem b6w (a0D:Int) (a0E:Int) (a0_2a:Option Addr) (a0_2n a0_2c:Nat) (a0_3a:Option Addr) (a0_3n a0_3c:Nat) (b8P:Int) (b8Q:Int) (a1_2a:Option Addr) (a1_2n a1_2c:Nat) (a1_3a:Option Addr) (a1_3n a1_3c:Nat) (w:World):(Instr.buildSlice 47 2 #[(0,(Value.agg #[(Value.int .i64 a0D),(Value.int .i64 a0E),(Value.slice a0_2a a0_2n a0_2c),(Value.slice a0_3a a0_3n a0_3c)])),(1,(Value.agg #[(Value.int .i64 b8P),(Value.int .i64 b8Q),(Value.slice a1_2a a1_2n a1_2c),(Value.slice a1_3a a1_3n a1_3c)]))]).run pG w=.ok (.slice (some ⟨w.heap.size,0,none⟩) 2 2) (w.alloc (.cells [(Value.int .i64 a0D),(Value.int .i64 a0E),(Value.slice a0_2a a0_2n a0_2c),(Value.slice a0_3a a0_3n a0_3c),(Value.int .i64 b8P),(Value.int .i64 b8Q),(Value.slice a1_2a a1_2n a1_2c),(Value.slice a1_3a a1_3n a1_3c)].toArray 49)):=by kernel_rfl
abbrev y2 (x:j9):List Value:=[(Value.int .i64 x.d8),(Value.string x.A8),(Value.slice x.o0.a x.o0.n x.o0.c),(Value.slice x.C3.a x.C3.n x.C3.c),(Value.slice x.R8.a x.R8.n x.R8.c),(Value.slice x.Q2.a x.Q2.n x.Q2.c)]
theorem a8g (x:j9):(y2 x).length=6:=rfl
theorem a8h (x:j9):(y2 x).all (·.oneCell')=true:=rfl
theorem c1k (a0D:Int) (a0E:ByteArray) (a0_2a:Option Addr) (a0_2n a0_2c:Nat) (a0_3a:Option Addr) (a0_3n a0_3c:Nat) (a0_4a:Option Addr) (a0_4n a0_4c:Nat) (a0_5a:Option Addr) (a0_5n a0_5c:Nat) (w:World):(Instr.buildSlice 24 1 #[(0,(Value.agg #[(Value.int .i64 a0D),(Value.string a0E),(Value.slice a0_2a a0_2n a0_2c),(Value.slice a0_3a a0_3n a0_3c),(Value.slice a0_4a a0_4n a0_4c),(Value.slice a0_5a a0_5n a0_5c)]))]).run pG w=.ok (.slice (some ⟨w.heap.size,0,none⟩) 1 1) (w.alloc (.cells [(Value.int .i64 a0D),(Value.string a0E),(Value.slice a0_2a a0_2n a0_2c),(Value.slice a0_3a a0_3n a0_3c),(Value.slice a0_4a a0_4n a0_4c),(Value.slice a0_5a a0_5n a0_5c)].toArray 56)):=by kernel_rfl
theorem c9I:Tryz.prog.info? 56=some ((Tryz.prog.info? 56).getD default):=by kernel_rfl
theorem c3w {E:Pan} {w0 w:World} {ps:Nat→Prop} {H0 H:Hp} {Fs:List Frag} {K:Value→World→Prop} {s:Sl} {xs:List j9} {F:Frag} {t2:Sl} {ys:List j9} {ks:List Bool} {ty:TypeId} (I:Inv w0 ps H0 H (F::Fs) w) (hr:RowL 56 6 y2 s xs F) (hs:SrcO w y2 t2 ys) (hb:(xs.length+ys.length)*121≤140737488355328) (h:∀(s':Sl) (F':Frag) (w':World),RowL 56 6 y2 s' (xs++ys) F'→Inv w0 ps H0 H (F'::Fs) w'→(∀k,k < w.heap.size→(∀p∈F,p.1≠k)→w'.heap[k]? = w.heap[k]?)→K (.slice s'.a s'.n s'.c) w'):opK pG E (xBuiltin .append #[24,24] ty ks [.slice s.a s.n s.c,.slice t2.a t2.n t2.c]) w K:=
  b4q (bytes:=120) Tryz.underlying24 c9I (z:=(Value.agg #[(Value.int .i64 0),(Value.string ⟨#[]⟩),(Value.slice none 0 0),(Value.slice none 0 0),(Value.slice none 0 0),(Value.slice none 0 0)])) (by kernel_rfl) (by kernel_rfl) (by kernel_rfl) (by kernel_rfl) I hr hs hb h
theorem b0E {g o:Nat}:Pu pG (xV (Instr.fieldAt 56 (.pointer (some ⟨g,o,none⟩)) 4)) (.pointer (some ⟨g,o+4,none⟩)):=Pu.ok fun w=>by kernel_rfl
theorem b0F {g o:Nat}:Pu pG (xV (Instr.fieldAt 56 (.pointer (some ⟨g,o,none⟩)) 5)) (.pointer (some ⟨g,o+5,none⟩)):=Pu.ok fun w=>by kernel_rfl
theorem a2W {g o:Nat}:Pu pG (xV (Instr.fieldAt 56 (.pointer (some ⟨g,o,none⟩)) 0)) (.pointer (some ⟨g,o+0,none⟩)):=Pu.ok fun w=>by kernel_rfl
theorem c9J:Tryz.prog.info? 40=some ((Tryz.prog.info? 40).getD default):=by kernel_rfl
theorem c3x {E:Pan} {w0 w:World} {ps:Nat→Prop} {H0 H:Hp} {Fs:List Frag} {K:Value→World→Prop} {s:Sl} {xs:List d6} {F:Frag} {t2:Sl} {ys:List d6} {ks:List Bool} {ty:TypeId} (I:Inv w0 ps H0 H (F::Fs) w) (hr:RowL 40 4 d7 s xs F) (hs:SrcO w d7 t2 ys) (hb:(xs.length+ys.length)*57≤140737488355328) (h:∀(s':Sl) (F':Frag) (w':World),RowL 40 4 d7 s' (xs++ys) F'→Inv w0 ps H0 H (F'::Fs) w'→(∀k,k < w.heap.size→(∀p∈F,p.1≠k)→w'.heap[k]? = w.heap[k]?)→K (.slice s'.a s'.n s'.c) w'):opK pG E (xBuiltin .append #[38,38] ty ks [.slice s.a s.n s.c,.slice t2.a t2.n t2.c]) w K:=
  b4q (bytes:=56) Tryz.underlying38 c9J (z:=(Value.agg #[(Value.int .i64 0),(Value.int .i64 0),(Value.string ⟨#[]⟩),(Value.slice none 0 0)])) (by kernel_rfl) (by kernel_rfl) (by kernel_rfl) (by kernel_rfl) I hr hs hb h
theorem b7J (a:Option Addr) (n c:Nat):Pu pG (xBuiltin .len #[61] 3 [false] [.slice a n c]) (.int .i64 (n:Int)):=a1U Tryz.underlying61 a n c
theorem a9O {g o:Nat}:Pu pG (xV (Instr.fieldAt 103 (.pointer (some ⟨g,o,none⟩)) 3)) (.pointer (some ⟨g,o+3,none⟩)):=Pu.ok fun w=>by kernel_rfl
theorem c5m {a:Option Addr} {g o:Nat} (ha:a=some ⟨g,o,none⟩) (len cap:Nat) (k:IntKind) (i:Int) (h0:0≤i) (h1:i < len):Pu pG (xV (Instr.indexAt 23 (.slice a len cap) (.int k i))) (.pointer (some ⟨g,o+i.toNat*2,none⟩)):=a3R Tryz.underlying23 Tryz.sizeOf68 ha len cap k i h0 h1
theorem a6j {g o:Nat}:Pu pG (xV (Instr.fieldAt 79 (.pointer (some ⟨g,o,none⟩)) 2)) (.pointer (some ⟨g,o+2,none⟩)):=Pu.ok fun w=>by kernel_rfl
theorem a8P {g o:Nat}:Pu pG (xV (Instr.fieldAt 40 (.pointer (some ⟨g,o,none⟩)) 2)) (.pointer (some ⟨g,o+2,none⟩)):=Pu.ok fun w=>by kernel_rfl
theorem a5r {g o:Nat}:Pu pG (xV (Instr.fieldAt 49 (.pointer (some ⟨g,o,none⟩)) 1)) (.pointer (some ⟨g,o+1,none⟩)):=Pu.ok fun w=>by kernel_rfl
theorem b1f {a:Option Addr} {g o:Nat} (ha:a=some ⟨g,o,none⟩) (len cap:Nat) (k:IntKind) (i:Int) (h0:0≤i) (h1:i < len):Pu pG (xV (Instr.indexAt 47 (.slice a len cap) (.int k i))) (.pointer (some ⟨g,o+i.toNat*4,none⟩)):=a3R Tryz.underlying47 Tryz.sizeOf49 ha len cap k i h0 h1
theorem c0P {g o:Nat}:Pu pG (xV (Instr.fieldAt 101 (.pointer (some ⟨g,o,none⟩)) 0)) (.pointer (some ⟨g,o+0,none⟩)):=Pu.ok fun w=>by kernel_rfl
theorem a5G {g o:Nat}:Pu pG (xV (Instr.fieldAt 101 (.pointer (some ⟨g,o,none⟩)) 1)) (.pointer (some ⟨g,o+1,none⟩)):=Pu.ok fun w=>by kernel_rfl
theorem b3v (a0D:Int) (a0E:Int) (a1:Int):Pu pG (xV (Instr.build 98 #[(0,(Value.agg #[(Value.int .i64 a0D),(Value.int .i64 a0E)])),(1,(Value.int .i64 a1))])) (.agg #[(Value.int .i64 a0D),(Value.int .i64 a0E),(Value.int .i64 a1)]):=Pu.ok fun w=>by kernel_rfl
theorem b5l (c6K:Int) (c6L:Int) (a_1:Int):Pu pG (xV (Instr.makeInterface 98 (.agg #[(Value.int .i64 c6K),(Value.int .i64 c6L),(Value.int .i64 a_1)]))) (.iface 98 (.agg #[(Value.int .i64 c6K),(Value.int .i64 c6L),(Value.int .i64 a_1)])):=Pu.ok fun w=>by kernel_rfl
theorem b8R {a0 a1 a2 a3 a4:Value}:Pu pG (xV (Instr.field 103 (.agg #[a0,a1,a2,a3,a4]) 1)) a1:=Pu.ok fun w=>by kernel_rfl
theorem b8S {a0 a1 a2 a3 a4:Value}:Pu pG (xV (Instr.field 103 (.agg #[a0,a1,a2,a3,a4]) 2)) a2:=Pu.ok fun w=>by kernel_rfl
theorem a8Q {g o:Nat}:Pu pG (xV (Instr.fieldAt 56 (.pointer (some ⟨g,o,none⟩)) 1)) (.pointer (some ⟨g,o+1,none⟩)):=Pu.ok fun w=>by kernel_rfl
abbrev M1 (x:ByteArray):List Value:=[(Value.string x)]
theorem a9P (x:ByteArray):(M1 x).length=1:=rfl
theorem a9Q (x:ByteArray):(M1 x).all (·.oneCell')=true:=rfl
theorem c7m (a0:ByteArray) (a1:ByteArray) (w:World):(Instr.buildSlice 77 2 #[(0,(Value.string a0)),(1,(Value.string a1))]).run pG w=.ok (.slice (some ⟨w.heap.size,0,none⟩) 2 2) (w.alloc (.cells [(Value.string a0),(Value.string a1)].toArray 9)):=by kernel_rfl
abbrev b2n (x:Int):List Value:=[(Value.int .i64 x)]
theorem b8T (x:Int):(b2n x).length=1:=rfl
theorem b8U (x:Int):(b2n x).all (·.oneCell')=true:=rfl
theorem c5n (a0:Int) (a1:Int) (w:World):(Instr.buildSlice 137 2 #[(0,(Value.int .i64 a0)),(1,(Value.int .i64 a1))]).run pG w=.ok (.slice (some ⟨w.heap.size,0,none⟩) 2 2) (w.alloc (.cells [(Value.int .i64 a0),(Value.int .i64 a1)].toArray 3)):=by kernel_rfl
theorem a7F {g o:Nat}:Pu pG (xV (Instr.fieldAt 56 (.pointer (some ⟨g,o,none⟩)) 3)) (.pointer (some ⟨g,o+3,none⟩)):=Pu.ok fun w=>by kernel_rfl
theorem b2o (a0:Int) (c9K:Int) (c9L:Int):Pu pG (xV (Instr.build 103 #[(0,(Value.int .i64 a0)),(3,(Value.agg #[(Value.int .i64 c9K),(Value.int .i64 c9L)]))])) (.agg #[(Value.int .i64 a0),(Value.string ⟨#[]⟩),(Value.int .i64 0),(Value.int .i64 c9K),(Value.int .i64 c9L)]):=Pu.ok fun w=>by kernel_rfl
abbrev f9 (x:b6):List Value:=[(Value.int .i64 x.d8),(Value.string x.A0),(Value.int .i64 x.F0),(Value.int .i64 x.fAt.o8),(Value.int .i64 x.fAt.s6)]
theorem a2B (x:b6):(f9 x).length=5:=rfl
theorem a2C (x:b6):(f9 x).all (·.oneCell')=true:=rfl
theorem b4s (a0D:Int) (a0E:ByteArray) (b1e:Int) (c3y:Int) (c3z:Int) (w:World):(Instr.buildSlice 61 1 #[(0,(Value.agg #[(Value.int .i64 a0D),(Value.string a0E),(Value.int .i64 b1e),(Value.int .i64 c3y),(Value.int .i64 c3z)]))]).run pG w=.ok (.slice (some ⟨w.heap.size,0,none⟩) 1 1) (w.alloc (.cells [(Value.int .i64 a0D),(Value.string a0E),(Value.int .i64 b1e),(Value.int .i64 c3y),(Value.int .i64 c3z)].toArray 103)):=by kernel_rfl
theorem c7n:Tryz.prog.info? 103=some ((Tryz.prog.info? 103).getD default):=by kernel_rfl
theorem b5R {E:Pan} {w0 w:World} {ps:Nat→Prop} {H0 H:Hp} {Fs:List Frag} {K:Value→World→Prop} {s:Sl} {xs:List b6} {F:Frag} {t2:Sl} {ys:List b6} {ks:List Bool} {ty:TypeId} (I:Inv w0 ps H0 H (F::Fs) w) (hr:RowL 103 5 f9 s xs F) (hs:SrcO w f9 t2 ys) (hb:(xs.length+ys.length)*49≤140737488355328) (h:∀(s':Sl) (F':Frag) (w':World),RowL 103 5 f9 s' (xs++ys) F'→Inv w0 ps H0 H (F'::Fs) w'→(∀k,k < w.heap.size→(∀p∈F,p.1≠k)→w'.heap[k]? = w.heap[k]?)→K (.slice s'.a s'.n s'.c) w'):opK pG E (xBuiltin .append #[61,61] ty ks [.slice s.a s.n s.c,.slice t2.a t2.n t2.c]) w K:=
  b4q (bytes:=48) Tryz.underlying61 c7n (z:=(Value.agg #[(Value.int .i64 0),(Value.string ⟨#[]⟩),(Value.int .i64 0),(Value.int .i64 0),(Value.int .i64 0)])) (by kernel_rfl) (by kernel_rfl) (by kernel_rfl) (by kernel_rfl) I hr hs hb h
theorem a1R {g o:Nat}:Pu pG (xV (Instr.fieldAt 120 (.pointer (some ⟨g,o,none⟩)) 2)) (.pointer (some ⟨g,o+2,none⟩)):=Pu.ok fun w=>by kernel_rfl
theorem b2p (a0:Bool) (a1:Bool):Pu pG (xV (Instr.build 123 #[(0,(Value.bool a0)),(1,(Value.bool a1))])) (.agg #[(Value.bool a0),(Value.bool a1)]):=Pu.ok fun w=>by kernel_rfl
theorem a0J {g o:Nat}:Pu pG (xV (Instr.fieldAt 123 (.pointer (some ⟨g,o,none⟩)) 0)) (.pointer (some ⟨g,o+0,none⟩)):=Pu.ok fun w=>by kernel_rfl
theorem c2y {g o:Nat}:Pu pG (xV (Instr.fieldAt 68 (.pointer (some ⟨g,o,none⟩)) 0)) (.pointer (some ⟨g,o+0,none⟩)):=Pu.ok fun w=>by kernel_rfl
theorem b2a {g o:Nat}:Pu pG (xV (Instr.fieldAt 123 (.pointer (some ⟨g,o,none⟩)) 1)) (.pointer (some ⟨g,o+1,none⟩)):=Pu.ok fun w=>by kernel_rfl
theorem b8V (a0a:Option Addr) (a0n a0c:Nat) (a1a:Option Addr) (a1n a1c:Nat) (w:World):(Instr.buildSlice 172 2 #[(0,(Value.slice a0a a0n a0c)),(1,(Value.slice a1a a1n a1c))]).run pG w=.ok (.slice (some ⟨w.heap.size,0,none⟩) 2 2) (w.alloc (.cells [(Value.slice a0a a0n a0c),(Value.slice a1a a1n a1c)].toArray 128)):=by kernel_rfl
theorem b3M (a0D:Int) (a0E:Int) (b1e:ByteArray) (a0_3a:Option Addr) (a0_3n a0_3c:Nat):Pu pG (xV (Instr.build 141 #[(0,(Value.agg #[(Value.int .i64 a0D),(Value.int .i64 a0E),(Value.string b1e),(Value.slice a0_3a a0_3n a0_3c)]))])) (.agg #[(Value.int .i64 a0D),(Value.int .i64 a0E),(Value.string b1e),(Value.slice a0_3a a0_3n a0_3c)]):=Pu.ok fun w=>by kernel_rfl
theorem a9n (x:L8):Pu pG (xV (Instr.makeInterface 141 (.agg #[(Value.int .i64 x.y1.d8),(Value.int .i64 x.y1.F0),(Value.string x.y1.A8),(Value.slice x.y1.B1.a x.y1.B1.n x.y1.B1.c)]))) (L1 (g9.H7 x)):=Pu.ok fun w=>rfl
abbrev u0 (x:g9):List Value:=[(L1 x)]
theorem P8 (x:g9):(u0 x).length=1:=rfl
theorem S2 (x:g9):(u0 x).all (·.oneCell')=true:=b8p x
theorem a9o (a0:g9) (w:World):(Instr.buildSlice 128 1 #[(0,(L1 a0))]).run pG w=.ok (.slice (some ⟨w.heap.size,0,none⟩) 1 1) (w.alloc (.cells [(L1 a0)].toArray 131)):=by cases a0<;>kernel_rfl
theorem b5S  : Pu pG (xV (Instr.build 120 #[])) (.agg #[(Value.int .i64 0),(Value.int .i64 0),(Value.int .i64 0)]):=Pu.ok fun w=>by kernel_rfl
theorem b2b {g o:Nat}:Pu pG (xV (Instr.fieldAt 120 (.pointer (some ⟨g,o,none⟩)) 0)) (.pointer (some ⟨g,o+0,none⟩)):=Pu.ok fun w=>by kernel_rfl
theorem b5m {g o:Nat}:Pu pG (xV (Instr.fieldAt 120 (.pointer (some ⟨g,o,none⟩)) 1)) (.pointer (some ⟨g,o+1,none⟩)):=Pu.ok fun w=>by kernel_rfl
theorem b3N (a0D:Int) (a0E:Int) (a0_2a:Option Addr) (a0_2n a0_2c:Nat) (a0_3a:Option Addr) (a0_3n a0_3c:Nat):Pu pG (xV (Instr.build 146 #[(0,(Value.agg #[(Value.int .i64 a0D),(Value.int .i64 a0E),(Value.slice a0_2a a0_2n a0_2c),(Value.slice a0_3a a0_3n a0_3c)]))])) (.agg #[(Value.int .i64 a0D),(Value.int .i64 a0E),(Value.slice a0_2a a0_2n a0_2c),(Value.slice a0_3a a0_3n a0_3c)]):=Pu.ok fun w=>by kernel_rfl
theorem b2q (x:Q5):Pu pG (xV (Instr.makeInterface 146 (.agg #[(Value.int .i64 x.s8.d8),(Value.int .i64 x.s8.fOp),(Value.slice x.s8.o0.a x.s8.o0.n x.s8.o0.c),(Value.slice x.s8.t7.a x.s8.t7.n x.s8.t7.c)]))) (L1 (g9.N4 x)):=Pu.ok fun w=>rfl
theorem b6x (a0:ByteArray) (c9M:Int) (c9N:Int):Pu pG (xV (Instr.build 155 #[(0,(Value.string a0)),(2,(Value.agg #[(Value.int .i64 c9M),(Value.int .i64 c9N)]))])) (.agg #[(Value.string a0),(Value.int .i64 0),(Value.int .i64 c9M),(Value.int .i64 c9N),(Value.slice none 0 0)]):=Pu.ok fun w=>by kernel_rfl
theorem a0K {g o:Nat}:Pu pG (xV (Instr.fieldAt 155 (.pointer (some ⟨g,o,none⟩)) 1)) (.pointer (some ⟨g,o+1,none⟩)):=Pu.ok fun w=>by kernel_rfl
theorem a8e {g o:Nat}:Pu pG (xV (Instr.fieldAt 155 (.pointer (some ⟨g,o,none⟩)) 0)) (.pointer (some ⟨g,o+0,none⟩)):=Pu.ok fun w=>by kernel_rfl
theorem a6J {g o:Nat}:Pu pG (xV (Instr.fieldAt 155 (.pointer (some ⟨g,o,none⟩)) 2)) (.pointer (some ⟨g,o+2,none⟩)):=Pu.ok fun w=>by kernel_rfl
theorem a5s {g o:Nat}:Pu pG (xV (Instr.fieldAt 28 (.pointer (some ⟨g,o,none⟩)) 1)) (.pointer (some ⟨g,o+1,none⟩)):=Pu.ok fun w=>by kernel_rfl
theorem a8R {g o:Nat}:Pu pG (xV (Instr.fieldAt 28 (.pointer (some ⟨g,o,none⟩)) 0)) (.pointer (some ⟨g,o+0,none⟩)):=Pu.ok fun w=>by kernel_rfl
theorem a9R {g o:Nat}:Pu pG (xV (Instr.fieldAt 155 (.pointer (some ⟨g,o,none⟩)) 3)) (.pointer (some ⟨g,o+4,none⟩)):=Pu.ok fun w=>by kernel_rfl
theorem a3r (s:ByteArray) (k:IntKind) (i:Int) (h0:0≤i) (h1:i < s.size):Pu pG (xV (Instr.index 9 (.string s) (.int k i))) (.int .u8 ((s.get! i.toNat).toNat:Int)):=b8K _ s k i Tryz.underlying9 h0 h1
theorem a1D (a0:Int) (a1:ByteArray):Pu pG (xV (Instr.build 103 #[(0,(Value.int .i64 a0)),(1,(Value.string a1))])) (.agg #[(Value.int .i64 a0),(Value.string a1),(Value.int .i64 0),(Value.int .i64 0),(Value.int .i64 0)]):=Pu.ok fun w=>by kernel_rfl
theorem a6k  : Pu pG (xV (Instr.build 103 #[])) (.agg #[(Value.int .i64 0),(Value.string ⟨#[]⟩),(Value.int .i64 0),(Value.int .i64 0),(Value.int .i64 0)]):=Pu.ok fun w=>by kernel_rfl
theorem c3A  : Pu pG (xV (Instr.build 79 #[])) (.agg #[(Value.int .i64 0),(Value.int .i64 0),(Value.int .i64 0),(Value.bool false),(Value.bool false),(Value.slice none 0 0)]):=Pu.ok fun w=>by kernel_rfl
theorem b0G (a:Option Addr) (n c:Nat):Pu pG (xBuiltin .len #[128] 3 [false] [.slice a n c]) (.int .i64 (n:Int)):=a1U Tryz.underlying128 a n c
theorem c3B {a:Option Addr} {g o:Nat} (ha:a=some ⟨g,o,none⟩) (len cap:Nat) (k:IntKind) (i:Int) (h0:0≤i) (h1:i < len):Pu pG (xV (Instr.indexAt 128 (.slice a len cap) (.int k i))) (.pointer (some ⟨g,o+i.toNat*1,none⟩)):=a3R Tryz.underlying128 Tryz.sizeOf131 ha len cap k i h0 h1
theorem b2L {g o:Nat}:Pu pG (xV (Instr.fieldAt 79 (.pointer (some ⟨g,o,none⟩)) 0)) (.pointer (some ⟨g,o+0,none⟩)):=Pu.ok fun w=>by kernel_rfl
theorem b5T {g o:Nat}:Pu pG (xV (Instr.fieldAt 79 (.pointer (some ⟨g,o,none⟩)) 1)) (.pointer (some ⟨g,o+1,none⟩)):=Pu.ok fun w=>by kernel_rfl
theorem b2M {g o:Nat}:Pu pG (xV (Instr.fieldAt 79 (.pointer (some ⟨g,o,none⟩)) 3)) (.pointer (some ⟨g,o+3,none⟩)):=Pu.ok fun w=>by kernel_rfl
theorem b2N {g o:Nat}:Pu pG (xV (Instr.fieldAt 79 (.pointer (some ⟨g,o,none⟩)) 4)) (.pointer (some ⟨g,o+4,none⟩)):=Pu.ok fun w=>by kernel_rfl
theorem b2O {g o:Nat}:Pu pG (xV (Instr.fieldAt 79 (.pointer (some ⟨g,o,none⟩)) 5)) (.pointer (some ⟨g,o+5,none⟩)):=Pu.ok fun w=>by kernel_rfl
theorem c7o (a0:ByteArray) (w:World):(Instr.buildSlice 77 1 #[(0,(Value.string a0))]).run pG w=.ok (.slice (some ⟨w.heap.size,0,none⟩) 1 1) (w.alloc (.cells [(Value.string a0)].toArray 9)):=by kernel_rfl
theorem d3y:Tryz.prog.info? 9=some ((Tryz.prog.info? 9).getD default):=by kernel_rfl
theorem c9O {E:Pan} {w0 w:World} {ps:Nat→Prop} {H0 H:Hp} {Fs:List Frag} {K:Value→World→Prop} {s:Sl} {xs:List ByteArray} {F:Frag} {t2:Sl} {ys:List ByteArray} {ks:List Bool} {ty:TypeId} (I:Inv w0 ps H0 H (F::Fs) w) (hr:RowL 9 1 M1 s xs F) (hs:SrcO w M1 t2 ys) (hb:(xs.length+ys.length)*17≤140737488355328) (h:∀(s':Sl) (F':Frag) (w':World),RowL 9 1 M1 s' (xs++ys) F'→Inv w0 ps H0 H (F'::Fs) w'→(∀k,k < w.heap.size→(∀p∈F,p.1≠k)→w'.heap[k]? = w.heap[k]?)→K (.slice s'.a s'.n s'.c) w'):opK pG E (xBuiltin .append #[77,77] ty ks [.slice s.a s.n s.c,.slice t2.a t2.n t2.c]) w K:=
  b4q (bytes:=16) Tryz.underlying77 d3y (z:=(Value.string ⟨#[]⟩)) (by kernel_rfl) (by kernel_rfl) (by kernel_rfl) (by kernel_rfl) I hr hs hb h
theorem b5U (a:Option Addr) (n c:Nat):Pu pG (xBuiltin .len #[172] 3 [false] [.slice a n c]) (.int .i64 (n:Int)):=a1U Tryz.underlying172 a n c
theorem b7K {a:Option Addr} {g o:Nat} (ha:a=some ⟨g,o,none⟩) (len cap:Nat) (k:IntKind) (i:Int) (h0:0≤i) (h1:i < len):Pu pG (xV (Instr.indexAt 172 (.slice a len cap) (.int k i))) (.pointer (some ⟨g,o+i.toNat*1,none⟩)):=a3R Tryz.underlying172 Tryz.sizeOf128 ha len cap k i h0 h1
theorem c3C (s:ByteArray):Pu pG (xV (Instr.makeInterface 9 (.string s))) (.iface 9 (.string s)):=Pu.ok fun w=>by kernel_rfl
theorem c1l:Tryz.prog.info? 131=some ((Tryz.prog.info? 131).getD default):=by kernel_rfl
theorem b2r {E:Pan} {w0 w:World} {ps:Nat→Prop} {H0 H:Hp} {Fs:List Frag} {K:Value→World→Prop} {s:Sl} {xs:List g9} {F:Frag} {t2:Sl} {ys:List g9} {ks:List Bool} {ty:TypeId} (I:Inv w0 ps H0 H (F::Fs) w) (hr:RowL 131 1 u0 s xs F) (hs:SrcO w u0 t2 ys) (hb:(xs.length+ys.length)*17≤140737488355328) (h:∀(s':Sl) (F':Frag) (w':World),RowL 131 1 u0 s' (xs++ys) F'→Inv w0 ps H0 H (F'::Fs) w'→(∀k,k < w.heap.size→(∀p∈F,p.1≠k)→w'.heap[k]? = w.heap[k]?)→K (.slice s'.a s'.n s'.c) w'):opK pG E (xBuiltin .append #[128,128] ty ks [.slice s.a s.n s.c,.slice t2.a t2.n t2.c]) w K:=
  b4q (bytes:=16) Tryz.underlying128 c1l (z:=Value.nilIface) (by kernel_rfl) (by kernel_rfl) (by kernel_rfl) (by kernel_rfl) I hr hs hb h
theorem b8W (a0D:ByteArray) (a0E:Int):Pu pG (xV (Instr.build 175 #[(0,(Value.agg #[(Value.string a0D),(Value.int .i64 a0E)]))])) (.agg #[(Value.string a0D),(Value.int .i64 a0E)]):=Pu.ok fun w=>by kernel_rfl
theorem b6y (x:a0L):Pu pG (xV (Instr.makeInterface 175 (.agg #[(Value.string x.a0Y.A8),(Value.int .i64 x.a0Y.a6T)]))) (L1 (g9.O4 x)):=Pu.ok fun w=>rfl
theorem b8X (a0D:Int) (a0E:ByteArray) (a0_2a:Option Addr) (a0_2n a0_2c:Nat) (a0_3a:Option Addr) (a0_3n a0_3c:Nat) (a0_4a:Option Addr) (a0_4n a0_4c:Nat) (a0_5a:Option Addr) (a0_5n a0_5c:Nat):Pu pG (xV (Instr.build 177 #[(0,(Value.agg #[(Value.int .i64 a0D),(Value.string a0E),(Value.slice a0_2a a0_2n a0_2c),(Value.slice a0_3a a0_3n a0_3c),(Value.slice a0_4a a0_4n a0_4c),(Value.slice a0_5a a0_5n a0_5c)]))])) (.agg #[(Value.int .i64 a0D),(Value.string a0E),(Value.slice a0_2a a0_2n a0_2c),(Value.slice a0_3a a0_3n a0_3c),(Value.slice a0_4a a0_4n a0_4c),(Value.slice a0_5a a0_5n a0_5c)]):=Pu.ok fun w=>by kernel_rfl
theorem b6z (x:X2):Pu pG (xV (Instr.makeInterface 177 (.agg #[(Value.int .i64 x.m8.d8),(Value.string x.m8.A8),(Value.slice x.m8.o0.a x.m8.o0.n x.m8.o0.c),(Value.slice x.m8.C3.a x.m8.C3.n x.m8.C3.c),(Value.slice x.m8.R8.a x.m8.R8.n x.m8.R8.c),(Value.slice x.m8.Q2.a x.m8.Q2.n x.m8.Q2.c)]))) (L1 (g9.L6 x)):=Pu.ok fun w=>rfl
theorem b5n {g o:Nat}:Pu pG (xV (Instr.fieldAt 139 (.pointer (some ⟨g,o,none⟩)) 2)) (.pointer (some ⟨g,o+2,none⟩)):=Pu.ok fun w=>by kernel_rfl
theorem c7p (a0:ByteArray) (a1:ByteArray) (a2:ByteArray) (w:World):(Instr.buildSlice 77 3 #[(0,(Value.string a0)),(1,(Value.string a1)),(2,(Value.string a2))]).run pG w=.ok (.slice (some ⟨w.heap.size,0,none⟩) 3 3) (w.alloc (.cells [(Value.string a0),(Value.string a1),(Value.string a2)].toArray 9)):=by kernel_rfl
theorem c5o (a0:Int) (a1:Int) (a2:Int) (w:World):(Instr.buildSlice 137 3 #[(0,(Value.int .i64 a0)),(1,(Value.int .i64 a1)),(2,(Value.int .i64 a2))]).run pG w=.ok (.slice (some ⟨w.heap.size,0,none⟩) 3 3) (w.alloc (.cells [(Value.int .i64 a0),(Value.int .i64 a1),(Value.int .i64 a2)].toArray 3)):=by kernel_rfl
theorem b1g (a0 a1 a2 a3 a4 a5 a6:ByteArray):Pu pG (xV (Instr.build 195 #[(0,.string a0),(1,.string a1),(2,.string a2),(3,.string a3),(4,.string a4),(5,.string a5),(6,.string a6)])) (.agg #[.string a0,.string a1,.string a2,.string a3,.string a4,.string a5,.string a6]):=Pu.ok fun w=>by kernel_rfl
theorem c2z (a0 a1 a2 a3 a4 a5 a6:ByteArray) (k:IntKind) (i:Int) (h0:0≤i) (h1:i < 7):Pu pG (xV (Instr.index 195 (.agg #[.string a0,.string a1,.string a2,.string a3,.string a4,.string a5,.string a6]) (.int k i))) (.string (([a0,a1,a2,a3,a4,a5,a6]:List ByteArray).getD i.toNat ⟨#[]⟩)):=by
  obtain rfl | rfl | rfl | rfl | rfl | rfl | rfl:=(by omega:i=0∨i=1∨i=2∨i=3∨i=4∨i=5∨i=6)
  · exact Pu.ok fun w=>by kernel_rfl
  · exact Pu.ok fun w=>by kernel_rfl
  · exact Pu.ok fun w=>by kernel_rfl
  · exact Pu.ok fun w=>by kernel_rfl
  · exact Pu.ok fun w=>by kernel_rfl
  · exact Pu.ok fun w=>by kernel_rfl
  · exact Pu.ok fun w=>by kernel_rfl
theorem b3O (k:IntKind) (n:Int):Pu pG (xV (convert 5 3 (.int k n))) (.int .i64 (IntKind.wrap .i64 n)):=Pu.ok fun w=>run_convert_int (P:=pG) (w:=w) 5 3 k n (by rw [Tryz.underlying5];rfl) Tryz.underlying3
theorem c0Q (k:IntKind) (n:Int):Pu pG (xV (convert 5 191 (.int k n))) (.int .u64 (IntKind.wrap .u64 n)):=Pu.ok fun w=>run_convert_int (P:=pG) (w:=w) 5 191 k n (by rw [Tryz.underlying5];rfl) Tryz.underlying191
theorem c0R (k:IntKind) (n:Int):Pu pG (xV (convert 191 2 (.int k n))) (.int .i64 (IntKind.wrap .i64 n)):=Pu.ok fun w=>run_convert_int (P:=pG) (w:=w) 191 2 k n (by rw [Tryz.underlying191];rfl) Tryz.underlying2
theorem b5z (a0:Int) (a1:ByteArray) (a2:Int):Pu pG (xV (Instr.build 103 #[(0,(Value.int .i64 a0)),(1,(Value.string a1)),(2,(Value.int .i64 a2))])) (.agg #[(Value.int .i64 a0),(Value.string a1),(Value.int .i64 a2),(Value.int .i64 0),(Value.int .i64 0)]):=Pu.ok fun w=>by kernel_rfl
theorem c0S {g o:Nat}:Pu pG (xV (Instr.fieldAt 139 (.pointer (some ⟨g,o,none⟩)) 0)) (.pointer (some ⟨g,o+0,none⟩)):=Pu.ok fun w=>by kernel_rfl
theorem c3D (a:Option Addr) (n c:Nat):Pu pG (xBuiltin .len #[77] 3 [false] [.slice a n c]) (.int .i64 (n:Int)):=a1U Tryz.underlying77 a n c
theorem b8Y {a:Option Addr} {g o:Nat} (ha:a=some ⟨g,o,none⟩) (len cap:Nat) (k:IntKind) (i:Int) (h0:0≤i) (h1:i < len):Pu pG (xV (Instr.indexAt 77 (.slice a len cap) (.int k i))) (.pointer (some ⟨g,o+i.toNat*1,none⟩)):=a3R Tryz.underlying77 Tryz.sizeOf9 ha len cap k i h0 h1
theorem c0T {g o:Nat}:Pu pG (xV (Instr.fieldAt 139 (.pointer (some ⟨g,o,none⟩)) 1)) (.pointer (some ⟨g,o+1,none⟩)):=Pu.ok fun w=>by kernel_rfl
theorem c3E {a:Option Addr} {g o:Nat} (ha:a=some ⟨g,o,none⟩) (len cap:Nat) (k:IntKind) (i:Int) (h0:0≤i) (h1:i < len):Pu pG (xV (Instr.indexAt 137 (.slice a len cap) (.int k i))) (.pointer (some ⟨g,o+i.toNat*1,none⟩)):=a3R Tryz.underlying137 Tryz.sizeOf3 ha len cap k i h0 h1
theorem c2A (x:Operand) {v:Value} (h:okI v):Pu pG (xBin .neq 200 x (.const Value.nilIface) v Value.nilIface) (.bool (!isNilI v)):=c5j _ _ (by kernel_rfl) h
theorem c2B (a0 a1 a2 a3 a4 a5:ByteArray) (k:IntKind) (i:Int) (h0:0≤i) (h1:i < 6):Pu pG (xV (Instr.index 203 (.agg #[.string a0,.string a1,.string a2,.string a3,.string a4,.string a5]) (.int k i))) (.string (([a0,a1,a2,a3,a4,a5]:List ByteArray).getD i.toNat ⟨#[]⟩)):=by
  obtain rfl | rfl | rfl | rfl | rfl | rfl:=(by omega:i=0∨i=1∨i=2∨i=3∨i=4∨i=5)
  · exact Pu.ok fun w=>by kernel_rfl
  · exact Pu.ok fun w=>by kernel_rfl
  · exact Pu.ok fun w=>by kernel_rfl
  · exact Pu.ok fun w=>by kernel_rfl
  · exact Pu.ok fun w=>by kernel_rfl
  · exact Pu.ok fun w=>by kernel_rfl
theorem b8q (x:g9):Pu pG (xV (Instr.typeAssert (L1 x) 131 175 true)) (.tuple #[(Value.agg #[(Value.string ((((x.a1C)).a0Y).A8)),(Value.int .i64 ((((x.a1C)).a0Y).a6T))]),.bool (x.a7B)]):=by
  cases x<;>exact Pu.ok fun w=>by kernel_rfl
theorem b2c {g o:Nat}:Pu pG (xV (Instr.fieldAt 175 (.pointer (some ⟨g,o,none⟩)) 0)) (.pointer (some ⟨g,o+0,none⟩)):=Pu.ok fun w=>by kernel_rfl
theorem b8r (x:g9):Pu pG (xV (Instr.typeAssert (L1 x) 131 177 true)) (.tuple #[(Value.agg #[(Value.int .i64 ((((x.u5)).m8).d8)),(Value.string ((((x.u5)).m8).A8)),(Value.slice ((((x.u5)).m8).o0).a ((((x.u5)).m8).o0).n ((((x.u5)).m8).o0).c),(Value.slice ((((x.u5)).m8).C3).a ((((x.u5)).m8).C3).n ((((x.u5)).m8).C3).c),(Value.slice ((((x.u5)).m8).R8).a ((((x.u5)).m8).R8).n ((((x.u5)).m8).R8).c),(Value.slice ((((x.u5)).m8).Q2).a ((((x.u5)).m8).Q2).n ((((x.u5)).m8).Q2).c)]),.bool (x.a7C)]):=by
  cases x<;>exact Pu.ok fun w=>by kernel_rfl
theorem R4 {g o:Nat}:Pu pG (xV (Instr.fieldAt 177 (.pointer (some ⟨g,o,none⟩)) 0)) (.pointer (some ⟨g,o+0,none⟩)):=Pu.ok fun w=>by kernel_rfl
theorem b8s (x:g9):Pu pG (xV (Instr.typeAssert (L1 x) 131 141 true)) (.tuple #[(Value.agg #[(Value.int .i64 ((((x.E4)).y1).d8)),(Value.int .i64 ((((x.E4)).y1).F0)),(Value.string ((((x.E4)).y1).A8)),(Value.slice ((((x.E4)).y1).B1).a ((((x.E4)).y1).B1).n ((((x.E4)).y1).B1).c)]),.bool (x.a7A)]):=by
  cases x<;>exact Pu.ok fun w=>by kernel_rfl
theorem a1S {g o:Nat}:Pu pG (xV (Instr.fieldAt 141 (.pointer (some ⟨g,o,none⟩)) 0)) (.pointer (some ⟨g,o+0,none⟩)):=Pu.ok fun w=>by kernel_rfl
theorem a2X {g o:Nat}:Pu pG (xV (Instr.fieldAt 146 (.pointer (some ⟨g,o,none⟩)) 0)) (.pointer (some ⟨g,o+0,none⟩)):=Pu.ok fun w=>by kernel_rfl
theorem a7G (a0:Int) (a1:Int):Pu pG (xV (Instr.build 260 #[(0,(Value.int .i64 a0)),(1,(Value.int .i64 a1))])) (.agg #[(Value.int .i64 a0),(Value.int .i64 a1)]):=Pu.ok fun w=>by kernel_rfl
theorem c7q (d:Nat) (a0 b0:Int) (a1 b1:Int) (w:World):(Op.equalIn (d+2) 260 (.agg #[(Value.int .i64 a0),(Value.int .i64 a1)]) (.agg #[(Value.int .i64 b0),(Value.int .i64 b1)])).run pG w=.ok (decide (a0=b0∧a1=b1)) w:=by
  have u3:=Tryz.underlying3
  have i3:=Tryz.isAgg3
  have s3:=Tryz.sizeOf3
  have hS:Tryz.prog.underlying 260=some (.struct (Tryz.prog.fieldsOf 260)):=by kernel_rfl
  rw [run_equalIn_agg w (d+1) 260 _ _ hS (by kernel_rfl)]
  simp only [Program.fieldsOf,Tryz.underlying260]
  go_simp
  try simp only [b5x]
  by_cases h0:a0=b0
  · by_cases h1:a1=b1
    · simp [h0,h1]
    · simp [h0,h1]
  · simp [h0]
theorem b1O (x y:Operand) (a0 b0:Int) (a1 b1:Int):Pu pG (xBin .eql 260 x y (.agg #[(Value.int .i64 a0),(Value.int .i64 a1)]) (.agg #[(Value.int .i64 b0),(Value.int .i64 b1)])) (.bool (decide (a0=b0∧a1=b1))):=by
  refine Pu.ok (s:=do eqGuard .eql 260 x y (.agg #[(Value.int .i64 a0),(Value.int .i64 a1)]) (.agg #[(Value.int .i64 b0),(Value.int .i64 b1)]);binOp .eql 260 (.agg #[(Value.int .i64 a0),(Value.int .i64 a1)]) (.agg #[(Value.int .i64 b0),(Value.int .i64 b1)])) fun w=>?_
  rw [Sem.run_bind,run_eqGuard_agg w _ _ _ _ _ _ (by kernel_rfl),Result.andThen_ok,run_eql_struct,show (10000:Nat)=9998+2 from rfl,c7q]
  rfl
theorem c2C  : Pu pG (xV (Instr.build 260 #[])) (.agg #[(Value.int .i64 0),(Value.int .i64 0)]):=Pu.ok fun w=>by kernel_rfl
theorem a4e (a0:Int) (a1:Int):Pu pG (xV (Instr.build 264 #[(0,(Value.int .i64 a0)),(1,(Value.int .i64 a1))])) (.agg #[(Value.int .i64 a0),(Value.int .i64 a1)]):=Pu.ok fun w=>by kernel_rfl
theorem c7r (d:Nat) (a0 b0:Int) (a1 b1:Int) (w:World):(Op.equalIn (d+2) 264 (.agg #[(Value.int .i64 a0),(Value.int .i64 a1)]) (.agg #[(Value.int .i64 b0),(Value.int .i64 b1)])).run pG w=.ok (decide (a0=b0∧a1=b1)) w:=by
  have u3:=Tryz.underlying3
  have i3:=Tryz.isAgg3
  have s3:=Tryz.sizeOf3
  have hS:Tryz.prog.underlying 264=some (.struct (Tryz.prog.fieldsOf 264)):=by kernel_rfl
  rw [run_equalIn_agg w (d+1) 264 _ _ hS (by kernel_rfl)]
  simp only [Program.fieldsOf,Tryz.underlying264]
  go_simp
  try simp only [b5x]
  by_cases h0:a0=b0
  · by_cases h1:a1=b1
    · simp [h0,h1]
    · simp [h0,h1]
  · simp [h0]
theorem a8t (x y:Operand) (a0 b0:Int) (a1 b1:Int):Pu pG (xBin .eql 264 x y (.agg #[(Value.int .i64 a0),(Value.int .i64 a1)]) (.agg #[(Value.int .i64 b0),(Value.int .i64 b1)])) (.bool (decide (a0=b0∧a1=b1))):=by
  refine Pu.ok (s:=do eqGuard .eql 264 x y (.agg #[(Value.int .i64 a0),(Value.int .i64 a1)]) (.agg #[(Value.int .i64 b0),(Value.int .i64 b1)]);binOp .eql 264 (.agg #[(Value.int .i64 a0),(Value.int .i64 a1)]) (.agg #[(Value.int .i64 b0),(Value.int .i64 b1)])) fun w=>?_
  rw [Sem.run_bind,run_eqGuard_agg w _ _ _ _ _ _ (by kernel_rfl),Result.andThen_ok,run_eql_struct,show (10000:Nat)=9998+2 from rfl,c7r]
  rfl
theorem c2D  : Pu pG (xV (Instr.build 264 #[])) (.agg #[(Value.int .i64 0),(Value.int .i64 0)]):=Pu.ok fun w=>by kernel_rfl
theorem c5p (a0a:Option Addr) (a0n a0c:Nat) (a1a:Option Addr) (a1n a1c:Nat) (a2a:Option Addr) (a2n a2c:Nat) (a3a:Option Addr) (a3n a3c:Nat) (w:World):(Instr.buildSlice 172 4 #[(0,(Value.slice a0a a0n a0c)),(1,(Value.slice a1a a1n a1c)),(2,(Value.slice a2a a2n a2c)),(3,(Value.slice a3a a3n a3c))]).run pG w=.ok (.slice (some ⟨w.heap.size,0,none⟩) 4 4) (w.alloc (.cells [(Value.slice a0a a0n a0c),(Value.slice a1a a1n a1c),(Value.slice a2a a2n a2c),(Value.slice a3a a3n a3c)].toArray 128)):=by kernel_rfl
abbrev u2 (x:p6):List Value:=[(Value.slice x.a7c.a x.a7c.n x.a7c.c),(Value.slice x.a6h.a x.a6h.n x.a6h.c)]
abbrev b9 (x:b7):List Value:=[(Value.int .i64 x.o8),(Value.int .i64 x.s6)]
abbrev i7 (x:b8):List Value:=[(Value.slice x.fl.a x.fl.n x.fl.c),(Value.int .i64 x.fat),(Value.int .i64 x.fbad),(Value.int .i64 x.fpos.o8),(Value.int .i64 x.fpos.s6)]
abbrev b2s (x:p1):List Value:=[(Value.int .i64 x.fnodes),(Value.int .i64 x.fdepth),(Value.int .i64 x.fe),(Value.bool x.fform),(Value.bool x.fnamed),(Value.slice x.fnames.a x.fnames.n x.fnames.c)]
abbrev d9 (x:a8):List Value:=[(Value.slice x.fl.a x.fl.n x.fl.c),(Value.int .i64 x.fn)]
abbrev P5 (x:m7):List Value:=[(Value.int .i64 x.fn),(Value.int .i64 x.fdepth),(Value.int .i64 x.fbad)]
abbrev z6 (x:i8):List Value:=[(Value.bool x.fok),(Value.bool x.fnames)]
abbrev Z8 (x:a3g):List Value:=[(Value.slice x.fsigns.a x.fsigns.n x.fsigns.c),(Value.slice x.fkinds.a x.fkinds.n x.fkinds.c),x.fpart]
end Go.Proofs.YthklmeihgmcljaaGreatDoor
