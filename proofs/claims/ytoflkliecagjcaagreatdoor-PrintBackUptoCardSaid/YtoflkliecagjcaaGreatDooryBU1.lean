/- Single operations at this program's types, and its structures; printed by lift.py. -/
import Derived.KernelRfl
import Derived.Laws.StructEq
import Derived.Laws.Cover2
import Derived.Test.YtoflkliecagjcaaGreatDooryBS5
import Derived.Test.YtoflkliecagjcaaGreatDooryBGz
namespace Go.Proofs.YtoflkliecagjcaaGreatDoor
open Go.RowKit
set_option maxRecDepth 100000
set_option maxHeartbeats 2000000
structure g9 where
  a0f:Sl
  a5h:Sl
structure c8 where
  M8:Int
  V1:Int
structure f8 where
  d6:Int
  M4:Int
  o8:ByteArray
  N8:Sl
structure C5 where
  faddr:(Option Addr)
  fbuf:Sl
structure c7 where
  G8:C5
  fdeep:Int
structure i6 where
  o8:ByteArray
  D4:Int
structure d9 where
  d6:Int
  o8:ByteArray
  p7:Sl
  C0:Sl
  P5:Sl
  O6:Sl
structure m7 where
  fnodes:Int
  fdepth:Int
  fe:Int
  fform:Bool
  fnamed:Bool
  fnames:Sl
structure a8 where
  fl:Sl
  fn:Int
structure b7 where
  d6:Int
  E1:ByteArray
  M4:Int
  fAt:c8
structure c9Z where
  fat:c8
  fe:Int
structure i7 where
  d6:Int
  fOp:Int
  p7:Sl
  E6:Sl
structure L4 where
  y7:f8
structure d7 where
  fs:ByteArray
  fn:Int
  fat:c8
  fl:Sl
structure Y7 where
  a0I:i6
structure V2 where
  m0:d9
structure V3 where
  u6:i7
structure a0T where
  f0:ByteArray
  f1:ByteArray
  f2:ByteArray
  f3:ByteArray
  f4:ByteArray
  f5:ByteArray
structure a1u where
  fsigns:Sl
  fkinds:Sl
  fpart:Value
structure O5 where
  f0:ByteArray
  f1:ByteArray
  f2:ByteArray
  f3:ByteArray
  f4:ByteArray
  f5:ByteArray
  f6:ByteArray
structure G5 where
  fexprs:Int
  fconds:Int
structure v8 where
  fexprs:Int
  fparts:Int
abbrev u0(x:d7)(s0:Sl):List Value:=[(Value.string x.fs),(vi x.fn),(vi x.fat.M8),(vi x.fat.V1),(vs s0)]
abbrev y8(x:d7):d7:=d7.mk x.fs x.fn x.fat (Sl.mk none 0 0)
abbrev adv(g:Nat)(x:Option Addr):Value:=Value.pointer (match x with | none=>none | some _=>some ⟨g,0,none⟩)
abbrev i8(g:Nat)(x:c7)(s0:Sl):List Value:=[(adv g x.G8.faddr),(vs s0),(vi x.fdeep)]
abbrev l7(x:c7):c7:=c7.mk (C5.mk x.G8.faddr (Sl.mk none 0 0)) x.fdeep
abbrev a0U(x:m7)(s0:Sl):List Value:=[(vi x.fnodes),(vi x.fdepth),(vi x.fe),(Value.bool x.fform),(Value.bool x.fnamed),(vs s0)]
abbrev a0g(x:m7):m7:=m7.mk x.fnodes x.fdepth x.fe x.fform x.fnamed (Sl.mk none 0 0)
inductive d8 where
  | nil
  | G3 (x:L4)
  | O1 (x:Y7)
  | L5 (x:V2)
  | P1 (x:V3)
def G6:d8→Value
  | .nil=>.nilIface
  | .G3 x=>.iface 100 (.agg #[(Value.int .i64 x.y7.d6),(Value.int .i64 x.y7.M4),(Value.string x.y7.o8),(Value.slice x.y7.N8.a x.y7.N8.n x.y7.N8.c)])
  | .O1 x=>.iface 143 (.agg #[(Value.string x.a0I.o8),(Value.int .i64 x.a0I.D4)])
  | .L5 x=>.iface 145 (.agg #[(Value.int .i64 x.m0.d6),(Value.string x.m0.o8),(Value.slice x.m0.p7.a x.m0.p7.n x.m0.p7.c),(Value.slice x.m0.C0.a x.m0.C0.n x.m0.C0.c),(Value.slice x.m0.P5.a x.m0.P5.n x.m0.P5.c),(Value.slice x.m0.O6.a x.m0.O6.n x.m0.O6.c)])
  | .P1 x=>.iface 240 (.agg #[(Value.int .i64 x.u6.d6),(Value.int .i64 x.u6.fOp),(Value.slice x.u6.p7.a x.u6.p7.n x.u6.p7.c),(Value.slice x.u6.E6.a x.u6.E6.n x.u6.E6.c)])
theorem b7o(x:d8):[G6 x].all (·.oneCell')=true:=by cases x<;>rfl
def d8.H8:d8→L4
  | .G3 x=>x
  | _=>(L4.mk (f8.mk 0 0 ⟨#[]⟩ (Sl.mk none 0 0)))
def d8.a5i:d8→Bool
  | .G3 _=>true
  | _=>false
def d8.a2r:d8→Y7
  | .O1 x=>x
  | _=>(Y7.mk (i6.mk ⟨#[]⟩ 0))
def d8.a5j:d8→Bool
  | .O1 _=>true
  | _=>false
def d8.z6:d8→V2
  | .L5 x=>x
  | _=>(V2.mk (d9.mk 0 ⟨#[]⟩ (Sl.mk none 0 0) (Sl.mk none 0 0) (Sl.mk none 0 0) (Sl.mk none 0 0)))
def d8.a5k:d8→Bool
  | .L5 _=>true
  | _=>false
theorem a5Z(a0:Int)(a1:Int):Pu pG (xV (Instr.build 39 #[(0,(Value.int .i64 a0)),(1,(Value.int .i64 a1))])) (.agg #[(Value.int .i64 a0),(Value.int .i64 a1),(Value.string ⟨#[]⟩),(Value.slice none 0 0)]):=Pu.ok fun w=>by kernel_rfl
abbrev f7(x:f8):List Value:=[(Value.int .i64 x.d6),(Value.int .i64 x.M4),(Value.string x.o8),(Value.slice x.N8.a x.N8.n x.N8.c)]
theorem P9(x:f8):(f7 x).length=4:=rfl
theorem Q0(x:f8):(f7 x).all (·.oneCell')=true:=rfl
theorem b2M(Y2:Int)(Y3:Int)(b2g:ByteArray)(a0_3a:Option Addr)(a0_3n a0_3c:Nat)(b7Z:Int)(b8a:Int)(d0a:ByteArray)(a1_3a:Option Addr)(a1_3n a1_3c:Nat)(w:World):(Instr.buildSlice 37 2 #[(0,(Value.agg #[(Value.int .i64 Y2),(Value.int .i64 Y3),(Value.string b2g),(Value.slice a0_3a a0_3n a0_3c)])),(1,(Value.agg #[(Value.int .i64 b7Z),(Value.int .i64 b8a),(Value.string d0a),(Value.slice a1_3a a1_3n a1_3c)]))]).run pG w=.ok (.slice (some ⟨w.heap.size,0,none⟩) 2 2) (w.alloc (.cells [(Value.int .i64 Y2),(Value.int .i64 Y3),(Value.string b2g),(Value.slice a0_3a a0_3n a0_3c),(Value.int .i64 b7Z),(Value.int .i64 b8a),(Value.string d0a),(Value.slice a1_3a a1_3n a1_3c)].toArray 39)):=by kernel_rfl
theorem a6a(a0:Int)(a3a:Option Addr)(a3n a3c:Nat):Pu pG (xV (Instr.build 39 #[(0,(Value.int .i64 a0)),(3,(Value.slice a3a a3n a3c))])) (.agg #[(Value.int .i64 a0),(Value.int .i64 0),(Value.string ⟨#[]⟩),(Value.slice a3a a3n a3c)]):=Pu.ok fun w=>by kernel_rfl
theorem b6z  : Pu pG (xV (Instr.build 47 #[])) (.agg #[(Value.pointer none),(Value.slice none 0 0),(Value.int .i64 0)]):=Pu.ok fun w=>by kernel_rfl
theorem a5l{g o:Nat}:Pu pG (xV (Instr.fieldAt 25 (.pointer (some ⟨g,o,none⟩)) 0)) (.pointer (some ⟨g,o+0,none⟩)):=Pu.ok fun w=>by kernel_rfl
theorem a7Z(a:Option Addr)(n c:Nat):Pu pG (xBuiltin .len #[22] 3 [false] [.slice a n c]) (.int .i64 (n:Int)):=a1t Tryz.underlying22 a n c
theorem b0Y{a:Option Addr}{g o:Nat}(ha:a=some ⟨g,o,none⟩)(len cap:Nat)(k:IntKind)(i:Int)(h0:0≤i)(h1:i < len):Pu pG (xV (Instr.indexAt 22 (.slice a len cap) (.int k i))) (.pointer (some ⟨g,o+i.toNat*2,none⟩)):=a2b Tryz.underlying22 Tryz.sizeOf49 ha len cap k i h0 h1
theorem a6C{g o:Nat}:Pu pG (xV (Instr.fieldAt 49 (.pointer (some ⟨g,o,none⟩)) 1)) (.pointer (some ⟨g,o+1,none⟩)):=Pu.ok fun w=>by kernel_rfl
theorem b0Z{g o:Nat}:Pu pG (xV (Instr.fieldAt 49 (.pointer (some ⟨g,o,none⟩)) 0)) (.pointer (some ⟨g,o+0,none⟩)):=Pu.ok fun w=>by kernel_rfl
abbrev q6(x:ByteArray):List Value:=[(Value.string x)]
theorem K8(x:ByteArray):(q6 x).length=1:=rfl
theorem K9(x:ByteArray):(q6 x).all (·.oneCell')=true:=rfl
theorem b2N(a0:ByteArray)(a1:ByteArray)(a2:ByteArray)(w:World):(Instr.buildSlice 67 3 #[(0,(Value.string a0)),(1,(Value.string a1)),(2,(Value.string a2))]).run pG w=.ok (.slice (some ⟨w.heap.size,0,none⟩) 3 3) (w.alloc (.cells [(Value.string a0),(Value.string a1),(Value.string a2)].toArray 9)):=by kernel_rfl
abbrev t8(x:Int):List Value:=[(Value.int .u8 x)]
theorem b4L(x:Int):(t8 x).length=1:=rfl
theorem b4M(x:Int):(t8 x).all (·.oneCell')=true:=rfl
theorem c7S(a0:ByteArray)(a1:ByteArray)(a2:ByteArray)(a3:ByteArray)(a4:ByteArray)(w:World):(Instr.buildSlice 67 5 #[(0,(Value.string a0)),(1,(Value.string a1)),(2,(Value.string a2)),(3,(Value.string a3)),(4,(Value.string a4))]).run pG w=.ok (.slice (some ⟨w.heap.size,0,none⟩) 5 5) (w.alloc (.cells [(Value.string a0),(Value.string a1),(Value.string a2),(Value.string a3),(Value.string a4)].toArray 9)):=by kernel_rfl
theorem a5m{g o:Nat}:Pu pG (xV (Instr.fieldAt 25 (.pointer (some ⟨g,o,none⟩)) 1)) (.pointer (some ⟨g,o+1,none⟩)):=Pu.ok fun w=>by kernel_rfl
theorem a2m(a:Option Addr)(n c:Nat):Pu pG (xBuiltin .len #[23] 3 [false] [.slice a n c]) (.int .i64 (n:Int)):=a1t Tryz.underlying23 a n c
theorem a9o{a:Option Addr}{g o:Nat}(ha:a=some ⟨g,o,none⟩)(len cap:Nat)(k:IntKind)(i:Int)(h0:0≤i)(h1:i < len):Pu pG (xV (Instr.indexAt 23 (.slice a len cap) (.int k i))) (.pointer (some ⟨g,o+i.toNat*6,none⟩)):=a2b Tryz.underlying23 Tryz.sizeOf54 ha len cap k i h0 h1
theorem a8T{g o:Nat}:Pu pG (xV (Instr.fieldAt 47 (.pointer (some ⟨g,o,none⟩)) 0)) (.pointer (some ⟨g,o+0,none⟩)):=Pu.ok fun w=>by kernel_rfl
theorem a6D{g o:Nat}:Pu pG (xV (Instr.fieldAt 45 (.pointer (some ⟨g,o,none⟩)) 1)) (.pointer (some ⟨g,o+1,none⟩)):=Pu.ok fun w=>by kernel_rfl
theorem W9{g o:Nat}:Pu pG (xV (Instr.fieldAt 54 (.pointer (some ⟨g,o,none⟩)) 0)) (.pointer (some ⟨g,o+0,none⟩)):=Pu.ok fun w=>by kernel_rfl
theorem a1i{g o:Nat}:Pu pG (xV (Instr.fieldAt 39 (.pointer (some ⟨g,o,none⟩)) 0)) (.pointer (some ⟨g,o+0,none⟩)):=Pu.ok fun w=>by kernel_rfl
theorem a6E{g o:Nat}:Pu pG (xV (Instr.fieldAt 39 (.pointer (some ⟨g,o,none⟩)) 1)) (.pointer (some ⟨g,o+1,none⟩)):=Pu.ok fun w=>by kernel_rfl
theorem X0(a0:ByteArray)(w:World):(Instr.buildSlice 67 1 #[(0,(Value.string a0))]).run pG w=.ok (.slice (some ⟨w.heap.size,0,none⟩) 1 1) (w.alloc (.cells [(Value.string a0)].toArray 9)):=by kernel_rfl
theorem b6A(a:Option Addr)(n c:Nat):Pu pG (xBuiltin .len #[67] 3 [false] [.slice a n c]) (.int .i64 (n:Int)):=a1t Tryz.underlying67 a n c
theorem b3X{a:Option Addr}{g o:Nat}(ha:a=some ⟨g,o,none⟩)(len cap:Nat)(k:IntKind)(i:Int)(h0:0≤i)(h1:i < len):Pu pG (xV (Instr.indexAt 67 (.slice a len cap) (.int k i))) (.pointer (some ⟨g,o+i.toNat*1,none⟩)):=a2b Tryz.underlying67 Tryz.sizeOf9 ha len cap k i h0 h1
theorem b1a{g o:Nat}:Pu pG (xV (Instr.fieldAt 45 (.pointer (some ⟨g,o,none⟩)) 0)) (.pointer (some ⟨g,o+0,none⟩)):=Pu.ok fun w=>by kernel_rfl
theorem d3T:Tryz.prog.info? 5=some ((Tryz.prog.info? 5).getD default):=by kernel_rfl
theorem c2P{E:Pan}{w0 w:World}{ps:Nat→Prop}{H0 H:Hp}{Fs:List Frag}{K:Value→World→Prop}{s:Sl}{xs:List Int}{F:Frag}{b:ByteArray}{ks:List Bool}{ty:TypeId}(I:Inv w0 ps H0 H (F::Fs) w)(hr:RowL 5 1 t8 s xs F)(hb:(xs.length+b.size)*2≤140737488355328)(h:∀(s':Sl)(F':Frag)(w':World),RowL 5 1 t8 s' (xs++sbytes b) F'→Inv w0 ps H0 H (F'::Fs) w'→(∀k,k < w.heap.size→(∀p∈F,p.1≠k)→w'.heap[k]? = w.heap[k]?)→K (.slice s'.a s'.n s'.c) w'):opK pG E (xBuiltin .append #[43,9] ty ks [.slice s.a s.n s.c,.string b]) w K:=
  c5w (bytes:=1) (fun _=>rfl) Tryz.underlying43 Tryz.underlying9 d3T (by kernel_rfl) (by kernel_rfl) (by kernel_rfl) I hr b hb h
theorem a6g(s:ByteArray):Pu pG (xBuiltin .len #[9] 3 [false] [.string s]) (.int .i64 (s.size:Int)):=c1C _ _ s Tryz.underlying9
theorem a5n{g o:Nat}:Pu pG (xV (Instr.fieldAt 39 (.pointer (some ⟨g,o,none⟩)) 2)) (.pointer (some ⟨g,o+2,none⟩)):=Pu.ok fun w=>by kernel_rfl
theorem b0w(a0:ByteArray)(a1:ByteArray)(w:World):(Instr.buildSlice 67 2 #[(0,(Value.string a0)),(1,(Value.string a1))]).run pG w=.ok (.slice (some ⟨w.heap.size,0,none⟩) 2 2) (w.alloc (.cells [(Value.string a0),(Value.string a1)].toArray 9)):=by kernel_rfl
theorem a3f{g o:Nat}:Pu pG (xV (Instr.fieldAt 39 (.pointer (some ⟨g,o,none⟩)) 3)) (.pointer (some ⟨g,o+3,none⟩)):=Pu.ok fun w=>by kernel_rfl
theorem a1N{a:Option Addr}{g o:Nat}(ha:a=some ⟨g,o,none⟩)(len cap:Nat)(k:IntKind)(i:Int)(h0:0≤i)(h1:i < len):Pu pG (xV (Instr.indexAt 37 (.slice a len cap) (.int k i))) (.pointer (some ⟨g,o+i.toNat*4,none⟩)):=a2b Tryz.underlying37 Tryz.sizeOf39 ha len cap k i h0 h1
theorem a5o{g o:Nat}:Pu pG (xV (Instr.fieldAt 69 (.pointer (some ⟨g,o,none⟩)) 2)) (.pointer (some ⟨g,o+2,none⟩)):=Pu.ok fun w=>by kernel_rfl
theorem c1I{g o:Nat}:Pu pG (xV (Instr.fieldAt 86 (.pointer (some ⟨g,o,none⟩)) 0)) (.pointer (some ⟨g,o+0,none⟩)):=Pu.ok fun w=>by kernel_rfl
theorem a4b{g o:Nat}:Pu pG (xV (Instr.fieldAt 86 (.pointer (some ⟨g,o,none⟩)) 1)) (.pointer (some ⟨g,o+1,none⟩)):=Pu.ok fun w=>by kernel_rfl
theorem c5x{a:Option Addr}{g o:Nat}(ha:a=some ⟨g,o,none⟩)(len cap:Nat)(k:IntKind)(i:Int)(h0:0≤i)(h1:i < len):Pu pG (xV (Instr.indexAt 79 (.slice a len cap) (.int k i))) (.pointer (some ⟨g,o+i.toNat*5,none⟩)):=a2b Tryz.underlying79 Tryz.sizeOf88 ha len cap k i h0 h1
theorem a4c{g o:Nat}:Pu pG (xV (Instr.fieldAt 88 (.pointer (some ⟨g,o,none⟩)) 0)) (.pointer (some ⟨g,o+0,none⟩)):=Pu.ok fun w=>by kernel_rfl
theorem X1{g o:Nat}:Pu pG (xV (Instr.fieldAt 88 (.pointer (some ⟨g,o,none⟩)) 1)) (.pointer (some ⟨g,o+1,none⟩)):=Pu.ok fun w=>by kernel_rfl
theorem a7R{a0 a1 a2 a3 a4:Value}:Pu pG (xV (Instr.field 88 (.agg #[a0,a1,a2,a3,a4]) 0)) a0:=Pu.ok fun w=>by kernel_rfl
theorem b3B{a0 a1 a2 a3 a4:Value}:Pu pG (xV (Instr.field 88 (.agg #[a0,a1,a2,a3,a4]) 3)) (.agg #[a3,a4]):=Pu.ok fun w=>by kernel_rfl
theorem b1M(Y2:Int)(Y3:Int)(a1:Int):Pu pG (xV (Instr.build 83 #[(0,(Value.agg #[(Value.int .i64 Y2),(Value.int .i64 Y3)])),(1,(Value.int .i64 a1))])) (.agg #[(Value.int .i64 Y2),(Value.int .i64 Y3),(Value.int .i64 a1)]):=Pu.ok fun w=>by kernel_rfl
theorem b3C(c7l:Int)(c7m:Int)(a_1:Int):Pu pG (xV (Instr.makeInterface 83 (.agg #[(Value.int .i64 c7l),(Value.int .i64 c7m),(Value.int .i64 a_1)]))) (.iface 83 (.agg #[(Value.int .i64 c7l),(Value.int .i64 c7m),(Value.int .i64 a_1)])):=Pu.ok fun w=>by kernel_rfl
theorem b9K{a0 a1 a2 a3 a4:Value}:Pu pG (xV (Instr.field 88 (.agg #[a0,a1,a2,a3,a4]) 1)) a1:=Pu.ok fun w=>by kernel_rfl
theorem b9L(a0:ByteArray):Pu pG (xV (Instr.build 49 #[(0,(Value.string a0))])) (.agg #[(Value.string a0),(Value.int .i64 0)]):=Pu.ok fun w=>by kernel_rfl
theorem a8U{g o:Nat}:Pu pG (xV (Instr.fieldAt 88 (.pointer (some ⟨g,o,none⟩)) 2)) (.pointer (some ⟨g,o+2,none⟩)):=Pu.ok fun w=>by kernel_rfl
theorem b9M{a0 a1 a2 a3 a4:Value}:Pu pG (xV (Instr.field 88 (.agg #[a0,a1,a2,a3,a4]) 2)) a2:=Pu.ok fun w=>by kernel_rfl
abbrev u1(x:i6):List Value:=[(Value.string x.o8),(Value.int .i64 x.D4)]
theorem b1N(x:i6):(u1 x).length=2:=rfl
theorem b1O(x:i6):(u1 x).all (·.oneCell')=true:=rfl
theorem c7T(Y2:ByteArray)(Y3:Int)(w:World):(Instr.buildSlice 22 1 #[(0,(Value.agg #[(Value.string Y2),(Value.int .i64 Y3)]))]).run pG w=.ok (.slice (some ⟨w.heap.size,0,none⟩) 1 1) (w.alloc (.cells [(Value.string Y2),(Value.int .i64 Y3)].toArray 49)):=by kernel_rfl
theorem d0b:Tryz.prog.info? 49=some ((Tryz.prog.info? 49).getD default):=by kernel_rfl
theorem d0c{E:Pan}{w0 w:World}{ps:Nat→Prop}{H0 H:Hp}{Fs:List Frag}{K:Value→World→Prop}{s:Sl}{xs:List i6}{F:Frag}{t2:Sl}{ys:List i6}{ks:List Bool}{ty:TypeId}(I:Inv w0 ps H0 H (F::Fs) w)(hr:RowL 49 2 u1 s xs F)(hs:SrcO w u1 t2 ys)(hb:(xs.length+ys.length)*25≤140737488355328)(h:∀(s':Sl)(F':Frag)(w':World),RowL 49 2 u1 s' (xs++ys) F'→Inv w0 ps H0 H (F'::Fs) w'→(∀k,k < w.heap.size→(∀p∈F,p.1≠k)→w'.heap[k]? = w.heap[k]?)→K (.slice s'.a s'.n s'.c) w'):opK pG E (xBuiltin .append #[22,22] ty ks [.slice s.a s.n s.c,.slice t2.a t2.n t2.c]) w K:=
  b2K (bytes:=24) Tryz.underlying22 d0b (z:=(Value.agg #[(Value.string ⟨#[]⟩),(Value.int .i64 0)])) (by kernel_rfl) (by kernel_rfl) (by kernel_rfl) (by kernel_rfl) I hr hs hb h
theorem a2d{g o:Nat}:Pu pG (xV (Instr.fieldAt 54 (.pointer (some ⟨g,o,none⟩)) 1)) (.pointer (some ⟨g,o+1,none⟩)):=Pu.ok fun w=>by kernel_rfl
theorem a0h{g o:Nat}:Pu pG (xV (Instr.fieldAt 54 (.pointer (some ⟨g,o,none⟩)) 2)) (.pointer (some ⟨g,o+2,none⟩)):=Pu.ok fun w=>by kernel_rfl
abbrev b0x(x:Int):List Value:=[(Value.int .i64 x)]
theorem b8b(x:Int):(b0x x).length=1:=rfl
theorem b8c(x:Int):(b0x x).all (·.oneCell')=true:=rfl
theorem c5y(a0:Int)(a1:Int)(w:World):(Instr.buildSlice 169 2 #[(0,(Value.int .i64 a0)),(1,(Value.int .i64 a1))]).run pG w=.ok (.slice (some ⟨w.heap.size,0,none⟩) 2 2) (w.alloc (.cells [(Value.int .i64 a0),(Value.int .i64 a1)].toArray 3)):=by kernel_rfl
theorem b2O(Y2:Int)(Y3:Int)(b2g:ByteArray)(a0_3a:Option Addr)(a0_3n a0_3c:Nat)(w:World):(Instr.buildSlice 37 1 #[(0,(Value.agg #[(Value.int .i64 Y2),(Value.int .i64 Y3),(Value.string b2g),(Value.slice a0_3a a0_3n a0_3c)]))]).run pG w=.ok (.slice (some ⟨w.heap.size,0,none⟩) 1 1) (w.alloc (.cells [(Value.int .i64 Y2),(Value.int .i64 Y3),(Value.string b2g),(Value.slice a0_3a a0_3n a0_3c)].toArray 39)):=by kernel_rfl
theorem d0d:Tryz.prog.info? 39=some ((Tryz.prog.info? 39).getD default):=by kernel_rfl
theorem c2Q{E:Pan}{w0 w:World}{ps:Nat→Prop}{H0 H:Hp}{Fs:List Frag}{K:Value→World→Prop}{s:Sl}{xs:List f8}{F:Frag}{t2:Sl}{ys:List f8}{ks:List Bool}{ty:TypeId}(I:Inv w0 ps H0 H (F::Fs) w)(hr:RowL 39 4 f7 s xs F)(hs:SrcO w f7 t2 ys)(hb:(xs.length+ys.length)*57≤140737488355328)(h:∀(s':Sl)(F':Frag)(w':World),RowL 39 4 f7 s' (xs++ys) F'→Inv w0 ps H0 H (F'::Fs) w'→(∀k,k < w.heap.size→(∀p∈F,p.1≠k)→w'.heap[k]? = w.heap[k]?)→K (.slice s'.a s'.n s'.c) w'):opK pG E (xBuiltin .append #[37,37] ty ks [.slice s.a s.n s.c,.slice t2.a t2.n t2.c]) w K:=
  b2K (bytes:=56) Tryz.underlying37 d0d (z:=(Value.agg #[(Value.int .i64 0),(Value.int .i64 0),(Value.string ⟨#[]⟩),(Value.slice none 0 0)])) (by kernel_rfl) (by kernel_rfl) (by kernel_rfl) (by kernel_rfl) I hr hs hb h
abbrev g7(x:i7):List Value:=[(Value.int .i64 x.d6),(Value.int .i64 x.fOp),(Value.slice x.p7.a x.p7.n x.p7.c),(Value.slice x.E6.a x.E6.n x.E6.c)]
theorem Y8(x:i7):(g7 x).length=4:=rfl
theorem Y9(x:i7):(g7 x).all (·.oneCell')=true:=rfl
theorem b0y(Y2:Int)(Y3:Int)(a0_2a:Option Addr)(a0_2n a0_2c:Nat)(a0_3a:Option Addr)(a0_3n a0_3c:Nat)(w:World):(Instr.buildSlice 52 1 #[(0,(Value.agg #[(Value.int .i64 Y2),(Value.int .i64 Y3),(Value.slice a0_2a a0_2n a0_2c),(Value.slice a0_3a a0_3n a0_3c)]))]).run pG w=.ok (.slice (some ⟨w.heap.size,0,none⟩) 1 1) (w.alloc (.cells [(Value.int .i64 Y2),(Value.int .i64 Y3),(Value.slice a0_2a a0_2n a0_2c),(Value.slice a0_3a a0_3n a0_3c)].toArray 75)):=by kernel_rfl
theorem Z0{g o:Nat}:Pu pG (xV (Instr.fieldAt 54 (.pointer (some ⟨g,o,none⟩)) 3)) (.pointer (some ⟨g,o+3,none⟩)):=Pu.ok fun w=>by kernel_rfl
abbrev k7(x:d9):List Value:=[(Value.int .i64 x.d6),(Value.string x.o8),(Value.slice x.p7.a x.p7.n x.p7.c),(Value.slice x.C0.a x.C0.n x.C0.c),(Value.slice x.P5.a x.P5.n x.P5.c),(Value.slice x.O6.a x.O6.n x.O6.c)]
theorem a6b(x:d9):(k7 x).length=6:=rfl
theorem a6c(x:d9):(k7 x).all (·.oneCell')=true:=rfl
theorem c0n(Y2:Int)(Y3:ByteArray)(a0_2a:Option Addr)(a0_2n a0_2c:Nat)(a0_3a:Option Addr)(a0_3n a0_3c:Nat)(a0_4a:Option Addr)(a0_4n a0_4c:Nat)(a0_5a:Option Addr)(a0_5n a0_5c:Nat)(w:World):(Instr.buildSlice 23 1 #[(0,(Value.agg #[(Value.int .i64 Y2),(Value.string Y3),(Value.slice a0_2a a0_2n a0_2c),(Value.slice a0_3a a0_3n a0_3c),(Value.slice a0_4a a0_4n a0_4c),(Value.slice a0_5a a0_5n a0_5c)]))]).run pG w=.ok (.slice (some ⟨w.heap.size,0,none⟩) 1 1) (w.alloc (.cells [(Value.int .i64 Y2),(Value.string Y3),(Value.slice a0_2a a0_2n a0_2c),(Value.slice a0_3a a0_3n a0_3c),(Value.slice a0_4a a0_4n a0_4c),(Value.slice a0_5a a0_5n a0_5c)].toArray 54)):=by kernel_rfl
theorem d0e:Tryz.prog.info? 54=some ((Tryz.prog.info? 54).getD default):=by kernel_rfl
theorem c2R{E:Pan}{w0 w:World}{ps:Nat→Prop}{H0 H:Hp}{Fs:List Frag}{K:Value→World→Prop}{s:Sl}{xs:List d9}{F:Frag}{t2:Sl}{ys:List d9}{ks:List Bool}{ty:TypeId}(I:Inv w0 ps H0 H (F::Fs) w)(hr:RowL 54 6 k7 s xs F)(hs:SrcO w k7 t2 ys)(hb:(xs.length+ys.length)*121≤140737488355328)(h:∀(s':Sl)(F':Frag)(w':World),RowL 54 6 k7 s' (xs++ys) F'→Inv w0 ps H0 H (F'::Fs) w'→(∀k,k < w.heap.size→(∀p∈F,p.1≠k)→w'.heap[k]? = w.heap[k]?)→K (.slice s'.a s'.n s'.c) w'):opK pG E (xBuiltin .append #[23,23] ty ks [.slice s.a s.n s.c,.slice t2.a t2.n t2.c]) w K:=
  b2K (bytes:=120) Tryz.underlying23 d0e (z:=(Value.agg #[(Value.int .i64 0),(Value.string ⟨#[]⟩),(Value.slice none 0 0),(Value.slice none 0 0),(Value.slice none 0 0),(Value.slice none 0 0)])) (by kernel_rfl) (by kernel_rfl) (by kernel_rfl) (by kernel_rfl) I hr hs hb h
theorem a3g{g o:Nat}:Pu pG (xV (Instr.fieldAt 54 (.pointer (some ⟨g,o,none⟩)) 4)) (.pointer (some ⟨g,o+4,none⟩)):=Pu.ok fun w=>by kernel_rfl
theorem a3h{g o:Nat}:Pu pG (xV (Instr.fieldAt 54 (.pointer (some ⟨g,o,none⟩)) 5)) (.pointer (some ⟨g,o+5,none⟩)):=Pu.ok fun w=>by kernel_rfl
theorem d0f(d:Nat)(a0 b0:ByteArray)(a1 b1:Int)(w:World):(Op.equalIn (d+2) 49 (.agg #[(Value.string a0),(Value.int .i64 a1)]) (.agg #[(Value.string b0),(Value.int .i64 b1)])).run pG w=.ok (decide (a0=b0∧a1=b1)) w:=by
  have u9:=Tryz.underlying9
  have i9:=Tryz.isAgg9
  have s9:=Tryz.sizeOf9
  have u3:=Tryz.underlying3
  have i3:=Tryz.isAgg3
  have s3:=Tryz.sizeOf3
  have hS:Tryz.prog.underlying 49=some (.struct (Tryz.prog.fieldsOf 49)):=by kernel_rfl
  rw [run_equalIn_agg w (d+1) 49 _ _ hS (by kernel_rfl)]
  simp only [Program.fieldsOf,Tryz.underlying49]
  go_simp
  try simp only [b3V]
  by_cases h0:a0=b0
  · by_cases h1:a1=b1
    · simp [h0,h1]
    · simp [h0,h1]
  · simp [h0]
theorem c5z(x y:Operand)(a0 b0:ByteArray)(a1 b1:Int):Pu pG (xBin .neq 49 x y (.agg #[(Value.string a0),(Value.int .i64 a1)]) (.agg #[(Value.string b0),(Value.int .i64 b1)])) (.bool (!decide (a0=b0∧a1=b1))):=by
  refine Pu.ok (s:=do eqGuard .neq 49 x y (.agg #[(Value.string a0),(Value.int .i64 a1)]) (.agg #[(Value.string b0),(Value.int .i64 b1)]);binOp .neq 49 (.agg #[(Value.string a0),(Value.int .i64 a1)]) (.agg #[(Value.string b0),(Value.int .i64 b1)])) fun w=>?_
  rw [Sem.run_bind,run_eqGuard_agg w _ _ _ _ _ _ (by kernel_rfl),Result.andThen_ok,run_neq_struct,show (10000:Nat)=9998+2 from rfl,d0f]
  rfl
theorem b2h(Y2:Int)(Y3:Int)(b2g:ByteArray)(a0_3a:Option Addr)(a0_3n a0_3c:Nat):Pu pG (xV (Instr.build 100 #[(0,(Value.agg #[(Value.int .i64 Y2),(Value.int .i64 Y3),(Value.string b2g),(Value.slice a0_3a a0_3n a0_3c)]))])) (.agg #[(Value.int .i64 Y2),(Value.int .i64 Y3),(Value.string b2g),(Value.slice a0_3a a0_3n a0_3c)]):=Pu.ok fun w=>by kernel_rfl
theorem a7s(x:L4):Pu pG (xV (Instr.makeInterface 100 (.agg #[(Value.int .i64 x.y7.d6),(Value.int .i64 x.y7.M4),(Value.string x.y7.o8),(Value.slice x.y7.N8.a x.y7.N8.n x.y7.N8.c)]))) (G6 (d8.G3 x)):=Pu.ok fun w=>rfl
abbrev s8(x:d8):List Value:=[(G6 x)]
theorem Q1(x:d8):(s8 x).length=1:=rfl
theorem S1(x:d8):(s8 x).all (·.oneCell')=true:=b7o x
theorem a9p(a0:d8)(w:World):(Instr.buildSlice 101 1 #[(0,(G6 a0))]).run pG w=.ok (.slice (some ⟨w.heap.size,0,none⟩) 1 1) (w.alloc (.cells [(G6 a0)].toArray 107)):=by cases a0<;>kernel_rfl
theorem b8d(a0a:Option Addr)(a0n a0c:Nat)(a1a:Option Addr)(a1n a1c:Nat)(w:World):(Instr.buildSlice 140 2 #[(0,(Value.slice a0a a0n a0c)),(1,(Value.slice a1a a1n a1c))]).run pG w=.ok (.slice (some ⟨w.heap.size,0,none⟩) 2 2) (w.alloc (.cells [(Value.slice a0a a0n a0c),(Value.slice a1a a1n a1c)].toArray 101)):=by kernel_rfl
theorem a6F{g o:Nat}:Pu pG (xV (Instr.fieldAt 47 (.pointer (some ⟨g,o,none⟩)) 1)) (.pointer (some ⟨g,o+2,none⟩)):=Pu.ok fun w=>by kernel_rfl
theorem b5O(a0:ByteArray)(d0g:Int)(d0h:Int):Pu pG (xV (Instr.build 123 #[(0,(Value.string a0)),(2,(Value.agg #[(Value.int .i64 d0g),(Value.int .i64 d0h)]))])) (.agg #[(Value.string a0),(Value.int .i64 0),(Value.int .i64 d0g),(Value.int .i64 d0h),(Value.slice none 0 0)]):=Pu.ok fun w=>by kernel_rfl
abbrev g8(x:b7):List Value:=[(Value.int .i64 x.d6),(Value.string x.E1),(Value.int .i64 x.M4),(Value.int .i64 x.fAt.M8),(Value.int .i64 x.fAt.V1)]
theorem a5p(x:b7):(g8 x).length=5:=rfl
theorem a5q(x:b7):(g8 x).all (·.oneCell')=true:=rfl
theorem W7{g o:Nat}:Pu pG (xV (Instr.fieldAt 123 (.pointer (some ⟨g,o,none⟩)) 1)) (.pointer (some ⟨g,o+1,none⟩)):=Pu.ok fun w=>by kernel_rfl
theorem a5P{g o:Nat}:Pu pG (xV (Instr.fieldAt 123 (.pointer (some ⟨g,o,none⟩)) 0)) (.pointer (some ⟨g,o+0,none⟩)):=Pu.ok fun w=>by kernel_rfl
theorem a4B{g o:Nat}:Pu pG (xV (Instr.fieldAt 123 (.pointer (some ⟨g,o,none⟩)) 2)) (.pointer (some ⟨g,o+2,none⟩)):=Pu.ok fun w=>by kernel_rfl
theorem b4N{g o:Nat}:Pu pG (xV (Instr.fieldAt 31 (.pointer (some ⟨g,o,none⟩)) 1)) (.pointer (some ⟨g,o+1,none⟩)):=Pu.ok fun w=>by kernel_rfl
theorem c1J{g o:Nat}:Pu pG (xV (Instr.fieldAt 31 (.pointer (some ⟨g,o,none⟩)) 0)) (.pointer (some ⟨g,o+0,none⟩)):=Pu.ok fun w=>by kernel_rfl
theorem b7p(a0:Int)(a1:Int):Pu pG (xV (Instr.build 31 #[(0,(Value.int .i64 a0)),(1,(Value.int .i64 a1))])) (.agg #[(Value.int .i64 a0),(Value.int .i64 a1)]):=Pu.ok fun w=>by kernel_rfl
theorem a7S{g o:Nat}:Pu pG (xV (Instr.fieldAt 123 (.pointer (some ⟨g,o,none⟩)) 3)) (.pointer (some ⟨g,o+4,none⟩)):=Pu.ok fun w=>by kernel_rfl
theorem a4K(a:Option Addr)(n c:Nat):Pu pG (xBuiltin .len #[37] 3 [false] [.slice a n c]) (.int .i64 (n:Int)):=a1t Tryz.underlying37 a n c
theorem a6n(a:Option Addr)(n c:Nat):Pu pG (xBuiltin .len #[52] 3 [false] [.slice a n c]) (.int .i64 (n:Int)):=a1t Tryz.underlying52 a n c
theorem a3u{a:Option Addr}{g o:Nat}(ha:a=some ⟨g,o,none⟩)(len cap:Nat)(k:IntKind)(i:Int)(h0:0≤i)(h1:i < len):Pu pG (xV (Instr.indexAt 52 (.slice a len cap) (.int k i))) (.pointer (some ⟨g,o+i.toNat*4,none⟩)):=a2b Tryz.underlying52 Tryz.sizeOf75 ha len cap k i h0 h1
theorem a4d{g o:Nat}:Pu pG (xV (Instr.fieldAt 75 (.pointer (some ⟨g,o,none⟩)) 0)) (.pointer (some ⟨g,o+0,none⟩)):=Pu.ok fun w=>by kernel_rfl
theorem a5r{g o:Nat}:Pu pG (xV (Instr.fieldAt 75 (.pointer (some ⟨g,o,none⟩)) 1)) (.pointer (some ⟨g,o+1,none⟩)):=Pu.ok fun w=>by kernel_rfl
theorem a5s{g o:Nat}:Pu pG (xV (Instr.fieldAt 75 (.pointer (some ⟨g,o,none⟩)) 2)) (.pointer (some ⟨g,o+2,none⟩)):=Pu.ok fun w=>by kernel_rfl
theorem a4e{g o:Nat}:Pu pG (xV (Instr.fieldAt 75 (.pointer (some ⟨g,o,none⟩)) 3)) (.pointer (some ⟨g,o+3,none⟩)):=Pu.ok fun w=>by kernel_rfl
theorem c2S  : Pu pG (xV (Instr.build 69 #[])) (.agg #[(Value.int .i64 0),(Value.int .i64 0),(Value.int .i64 0),(Value.bool false),(Value.bool false),(Value.slice none 0 0)]):=Pu.ok fun w=>by kernel_rfl
theorem a8V(a:Option Addr)(n c:Nat):Pu pG (xBuiltin .len #[101] 3 [false] [.slice a n c]) (.int .i64 (n:Int)):=a1t Tryz.underlying101 a n c
theorem c2T{a:Option Addr}{g o:Nat}(ha:a=some ⟨g,o,none⟩)(len cap:Nat)(k:IntKind)(i:Int)(h0:0≤i)(h1:i < len):Pu pG (xV (Instr.indexAt 101 (.slice a len cap) (.int k i))) (.pointer (some ⟨g,o+i.toNat*1,none⟩)):=a2b Tryz.underlying101 Tryz.sizeOf107 ha len cap k i h0 h1
theorem b1b{g o:Nat}:Pu pG (xV (Instr.fieldAt 69 (.pointer (some ⟨g,o,none⟩)) 0)) (.pointer (some ⟨g,o+0,none⟩)):=Pu.ok fun w=>by kernel_rfl
theorem b4O{g o:Nat}:Pu pG (xV (Instr.fieldAt 69 (.pointer (some ⟨g,o,none⟩)) 1)) (.pointer (some ⟨g,o+1,none⟩)):=Pu.ok fun w=>by kernel_rfl
theorem b1c{g o:Nat}:Pu pG (xV (Instr.fieldAt 69 (.pointer (some ⟨g,o,none⟩)) 3)) (.pointer (some ⟨g,o+3,none⟩)):=Pu.ok fun w=>by kernel_rfl
theorem b1d{g o:Nat}:Pu pG (xV (Instr.fieldAt 69 (.pointer (some ⟨g,o,none⟩)) 4)) (.pointer (some ⟨g,o+4,none⟩)):=Pu.ok fun w=>by kernel_rfl
theorem b1e{g o:Nat}:Pu pG (xV (Instr.fieldAt 69 (.pointer (some ⟨g,o,none⟩)) 5)) (.pointer (some ⟨g,o+5,none⟩)):=Pu.ok fun w=>by kernel_rfl
theorem d3U:Tryz.prog.info? 9=some ((Tryz.prog.info? 9).getD default):=by kernel_rfl
theorem d0i{E:Pan}{w0 w:World}{ps:Nat→Prop}{H0 H:Hp}{Fs:List Frag}{K:Value→World→Prop}{s:Sl}{xs:List ByteArray}{F:Frag}{t2:Sl}{ys:List ByteArray}{ks:List Bool}{ty:TypeId}(I:Inv w0 ps H0 H (F::Fs) w)(hr:RowL 9 1 q6 s xs F)(hs:SrcO w q6 t2 ys)(hb:(xs.length+ys.length)*17≤140737488355328)(h:∀(s':Sl)(F':Frag)(w':World),RowL 9 1 q6 s' (xs++ys) F'→Inv w0 ps H0 H (F'::Fs) w'→(∀k,k < w.heap.size→(∀p∈F,p.1≠k)→w'.heap[k]? = w.heap[k]?)→K (.slice s'.a s'.n s'.c) w'):opK pG E (xBuiltin .append #[67,67] ty ks [.slice s.a s.n s.c,.slice t2.a t2.n t2.c]) w K:=
  b2K (bytes:=16) Tryz.underlying67 d3U (z:=(Value.string ⟨#[]⟩)) (by kernel_rfl) (by kernel_rfl) (by kernel_rfl) (by kernel_rfl) I hr hs hb h
theorem b1f(a0 a1 a2 a3 a4:ByteArray):Pu pG (xV (Instr.build 139 #[(0,.string a0),(1,.string a1),(2,.string a2),(3,.string a3),(4,.string a4)])) (.agg #[.string a0,.string a1,.string a2,.string a3,.string a4]):=Pu.ok fun w=>by kernel_rfl
theorem c1K(a0 a1 a2 a3 a4:ByteArray)(k:IntKind)(i:Int)(h0:0≤i)(h1:i < 5):Pu pG (xV (Instr.index 139 (.agg #[.string a0,.string a1,.string a2,.string a3,.string a4]) (.int k i))) (.string (([a0,a1,a2,a3,a4]:List ByteArray).getD i.toNat ⟨#[]⟩)):=by
  obtain rfl | rfl | rfl | rfl | rfl:=(by omega:i=0∨i=1∨i=2∨i=3∨i=4)
  · exact Pu.ok fun w=>by kernel_rfl
  · exact Pu.ok fun w=>by kernel_rfl
  · exact Pu.ok fun w=>by kernel_rfl
  · exact Pu.ok fun w=>by kernel_rfl
  · exact Pu.ok fun w=>by kernel_rfl
theorem b4P(a:Option Addr)(n c:Nat):Pu pG (xBuiltin .len #[140] 3 [false] [.slice a n c]) (.int .i64 (n:Int)):=a1t Tryz.underlying140 a n c
theorem b6B{a:Option Addr}{g o:Nat}(ha:a=some ⟨g,o,none⟩)(len cap:Nat)(k:IntKind)(i:Int)(h0:0≤i)(h1:i < len):Pu pG (xV (Instr.indexAt 140 (.slice a len cap) (.int k i))) (.pointer (some ⟨g,o+i.toNat*1,none⟩)):=a2b Tryz.underlying140 Tryz.sizeOf101 ha len cap k i h0 h1
theorem c2U(s:ByteArray):Pu pG (xV (Instr.makeInterface 9 (.string s))) (.iface 9 (.string s)):=Pu.ok fun w=>by kernel_rfl
theorem c0o:Tryz.prog.info? 107=some ((Tryz.prog.info? 107).getD default):=by kernel_rfl
theorem b0z{E:Pan}{w0 w:World}{ps:Nat→Prop}{H0 H:Hp}{Fs:List Frag}{K:Value→World→Prop}{s:Sl}{xs:List d8}{F:Frag}{t2:Sl}{ys:List d8}{ks:List Bool}{ty:TypeId}(I:Inv w0 ps H0 H (F::Fs) w)(hr:RowL 107 1 s8 s xs F)(hs:SrcO w s8 t2 ys)(hb:(xs.length+ys.length)*17≤140737488355328)(h:∀(s':Sl)(F':Frag)(w':World),RowL 107 1 s8 s' (xs++ys) F'→Inv w0 ps H0 H (F'::Fs) w'→(∀k,k < w.heap.size→(∀p∈F,p.1≠k)→w'.heap[k]? = w.heap[k]?)→K (.slice s'.a s'.n s'.c) w'):opK pG E (xBuiltin .append #[101,101] ty ks [.slice s.a s.n s.c,.slice t2.a t2.n t2.c]) w K:=
  b2K (bytes:=16) Tryz.underlying101 c0o (z:=Value.nilIface) (by kernel_rfl) (by kernel_rfl) (by kernel_rfl) (by kernel_rfl) I hr hs hb h
theorem b8e(Y2:ByteArray)(Y3:Int):Pu pG (xV (Instr.build 143 #[(0,(Value.agg #[(Value.string Y2),(Value.int .i64 Y3)]))])) (.agg #[(Value.string Y2),(Value.int .i64 Y3)]):=Pu.ok fun w=>by kernel_rfl
theorem b5P(x:Y7):Pu pG (xV (Instr.makeInterface 143 (.agg #[(Value.string x.a0I.o8),(Value.int .i64 x.a0I.D4)]))) (G6 (d8.O1 x)):=Pu.ok fun w=>rfl
theorem b8f(Y2:Int)(Y3:ByteArray)(a0_2a:Option Addr)(a0_2n a0_2c:Nat)(a0_3a:Option Addr)(a0_3n a0_3c:Nat)(a0_4a:Option Addr)(a0_4n a0_4c:Nat)(a0_5a:Option Addr)(a0_5n a0_5c:Nat):Pu pG (xV (Instr.build 145 #[(0,(Value.agg #[(Value.int .i64 Y2),(Value.string Y3),(Value.slice a0_2a a0_2n a0_2c),(Value.slice a0_3a a0_3n a0_3c),(Value.slice a0_4a a0_4n a0_4c),(Value.slice a0_5a a0_5n a0_5c)]))])) (.agg #[(Value.int .i64 Y2),(Value.string Y3),(Value.slice a0_2a a0_2n a0_2c),(Value.slice a0_3a a0_3n a0_3c),(Value.slice a0_4a a0_4n a0_4c),(Value.slice a0_5a a0_5n a0_5c)]):=Pu.ok fun w=>by kernel_rfl
theorem b5Q(x:V2):Pu pG (xV (Instr.makeInterface 145 (.agg #[(Value.int .i64 x.m0.d6),(Value.string x.m0.o8),(Value.slice x.m0.p7.a x.m0.p7.n x.m0.p7.c),(Value.slice x.m0.C0.a x.m0.C0.n x.m0.C0.c),(Value.slice x.m0.P5.a x.m0.P5.n x.m0.P5.c),(Value.slice x.m0.O6.a x.m0.O6.n x.m0.O6.c)]))) (G6 (d8.L5 x)):=Pu.ok fun w=>rfl
theorem a5Q(a0 a1 a2 a3 a4 a5:ByteArray):Pu pG (xV (Instr.build 157 #[(0,.string a0),(1,.string a1),(2,.string a2),(3,.string a3),(4,.string a4),(5,.string a5)])) (.agg #[.string a0,.string a1,.string a2,.string a3,.string a4,.string a5]):=Pu.ok fun w=>by kernel_rfl
theorem b4Q(a0 a1 a2 a3 a4 a5:ByteArray)(k:IntKind)(i:Int)(h0:0≤i)(h1:i < 6):Pu pG (xV (Instr.index 157 (.agg #[.string a0,.string a1,.string a2,.string a3,.string a4,.string a5]) (.int k i))) (.string (([a0,a1,a2,a3,a4,a5]:List ByteArray).getD i.toNat ⟨#[]⟩)):=by
  obtain rfl | rfl | rfl | rfl | rfl | rfl:=(by omega:i=0∨i=1∨i=2∨i=3∨i=4∨i=5)
  · exact Pu.ok fun w=>by kernel_rfl
  · exact Pu.ok fun w=>by kernel_rfl
  · exact Pu.ok fun w=>by kernel_rfl
  · exact Pu.ok fun w=>by kernel_rfl
  · exact Pu.ok fun w=>by kernel_rfl
  · exact Pu.ok fun w=>by kernel_rfl
theorem a6d(a0:Int)(a1:ByteArray):Pu pG (xV (Instr.build 88 #[(0,(Value.int .i64 a0)),(1,(Value.string a1))])) (.agg #[(Value.int .i64 a0),(Value.string a1),(Value.int .i64 0),(Value.int .i64 0),(Value.int .i64 0)]):=Pu.ok fun w=>by kernel_rfl
theorem c1L(x:Operand){v:Value}(h:okI v):Pu pG (xBin .neq 114 x (.const Value.nilIface) v Value.nilIface) (.bool (!isNilI v)):=c5r _ _ (by kernel_rfl) h
theorem c7U(s:ByteArray)(k:IntKind)(i:Int)(h0:0≤i)(h1:i < s.size):Pu pG (xV (Instr.index 9 (.string s) (.int k i))) (.int .u8 ((s.get! i.toNat).toNat:Int)):=b7S _ s k i Tryz.underlying9 h0 h1
theorem b6C  : Pu pG (xV (Instr.build 88 #[])) (.agg #[(Value.int .i64 0),(Value.string ⟨#[]⟩),(Value.int .i64 0),(Value.int .i64 0),(Value.int .i64 0)]):=Pu.ok fun w=>by kernel_rfl
theorem b3D{g o:Nat}:Pu pG (xV (Instr.fieldAt 171 (.pointer (some ⟨g,o,none⟩)) 2)) (.pointer (some ⟨g,o+2,none⟩)):=Pu.ok fun w=>by kernel_rfl
theorem c5A(a0:Int)(a1:Int)(a2:Int)(w:World):(Instr.buildSlice 169 3 #[(0,(Value.int .i64 a0)),(1,(Value.int .i64 a1)),(2,(Value.int .i64 a2))]).run pG w=.ok (.slice (some ⟨w.heap.size,0,none⟩) 3 3) (w.alloc (.cells [(Value.int .i64 a0),(Value.int .i64 a1),(Value.int .i64 a2)].toArray 3)):=by kernel_rfl
theorem a9q(a0 a1 a2 a3 a4 a5 a6:ByteArray):Pu pG (xV (Instr.build 203 #[(0,.string a0),(1,.string a1),(2,.string a2),(3,.string a3),(4,.string a4),(5,.string a5),(6,.string a6)])) (.agg #[.string a0,.string a1,.string a2,.string a3,.string a4,.string a5,.string a6]):=Pu.ok fun w=>by kernel_rfl
theorem c1M(a0 a1 a2 a3 a4 a5 a6:ByteArray)(k:IntKind)(i:Int)(h0:0≤i)(h1:i < 7):Pu pG (xV (Instr.index 203 (.agg #[.string a0,.string a1,.string a2,.string a3,.string a4,.string a5,.string a6]) (.int k i))) (.string (([a0,a1,a2,a3,a4,a5,a6]:List ByteArray).getD i.toNat ⟨#[]⟩)):=by
  obtain rfl | rfl | rfl | rfl | rfl | rfl | rfl:=(by omega:i=0∨i=1∨i=2∨i=3∨i=4∨i=5∨i=6)
  · exact Pu.ok fun w=>by kernel_rfl
  · exact Pu.ok fun w=>by kernel_rfl
  · exact Pu.ok fun w=>by kernel_rfl
  · exact Pu.ok fun w=>by kernel_rfl
  · exact Pu.ok fun w=>by kernel_rfl
  · exact Pu.ok fun w=>by kernel_rfl
  · exact Pu.ok fun w=>by kernel_rfl
theorem b4R(a0:Int)(a1:Int)(a2a:Option Addr)(a2n a2c:Nat):Pu pG (xV (Instr.build 75 #[(0,(Value.int .i64 a0)),(1,(Value.int .i64 a1)),(2,(Value.slice a2a a2n a2c))])) (.agg #[(Value.int .i64 a0),(Value.int .i64 a1),(Value.slice a2a a2n a2c),(Value.slice none 0 0)]):=Pu.ok fun w=>by kernel_rfl
theorem b3E(a0:Int):Pu pG (xV (Instr.build 75 #[(0,(Value.int .i64 a0))])) (.agg #[(Value.int .i64 a0),(Value.int .i64 0),(Value.slice none 0 0),(Value.slice none 0 0)]):=Pu.ok fun w=>by kernel_rfl
theorem b1P(a0:Int)(a3a:Option Addr)(a3n a3c:Nat):Pu pG (xV (Instr.build 75 #[(0,(Value.int .i64 a0)),(3,(Value.slice a3a a3n a3c))])) (.agg #[(Value.int .i64 a0),(Value.int .i64 0),(Value.slice none 0 0),(Value.slice a3a a3n a3c)]):=Pu.ok fun w=>by kernel_rfl
theorem b7q(x:d8):Pu pG (xV (Instr.typeAssert (G6 x) 107 143 true)) (.tuple #[(Value.agg #[(Value.string ((((x.a2r)).a0I).o8)),(Value.int .i64 ((((x.a2r)).a0I).D4))]),.bool (x.a5j)]):=by
  cases x<;>exact Pu.ok fun w=>by kernel_rfl
theorem b0j{g o:Nat}:Pu pG (xV (Instr.fieldAt 143 (.pointer (some ⟨g,o,none⟩)) 0)) (.pointer (some ⟨g,o+0,none⟩)):=Pu.ok fun w=>by kernel_rfl
theorem b7r(x:d8):Pu pG (xV (Instr.typeAssert (G6 x) 107 145 true)) (.tuple #[(Value.agg #[(Value.int .i64 ((((x.z6)).m0).d6)),(Value.string ((((x.z6)).m0).o8)),(Value.slice ((((x.z6)).m0).p7).a ((((x.z6)).m0).p7).n ((((x.z6)).m0).p7).c),(Value.slice ((((x.z6)).m0).C0).a ((((x.z6)).m0).C0).n ((((x.z6)).m0).C0).c),(Value.slice ((((x.z6)).m0).P5).a ((((x.z6)).m0).P5).n ((((x.z6)).m0).P5).c),(Value.slice ((((x.z6)).m0).O6).a ((((x.z6)).m0).O6).n ((((x.z6)).m0).O6).c)]),.bool (x.a5k)]):=by
  cases x<;>exact Pu.ok fun w=>by kernel_rfl
theorem P2{g o:Nat}:Pu pG (xV (Instr.fieldAt 145 (.pointer (some ⟨g,o,none⟩)) 0)) (.pointer (some ⟨g,o+0,none⟩)):=Pu.ok fun w=>by kernel_rfl
theorem b7s(x:d8):Pu pG (xV (Instr.typeAssert (G6 x) 107 100 true)) (.tuple #[(Value.agg #[(Value.int .i64 ((((x.H8)).y7).d6)),(Value.int .i64 ((((x.H8)).y7).M4)),(Value.string ((((x.H8)).y7).o8)),(Value.slice ((((x.H8)).y7).N8).a ((((x.H8)).y7).N8).n ((((x.H8)).y7).N8).c)]),.bool (x.a5i)]):=by
  cases x<;>exact Pu.ok fun w=>by kernel_rfl
theorem a0d{g o:Nat}:Pu pG (xV (Instr.fieldAt 100 (.pointer (some ⟨g,o,none⟩)) 0)) (.pointer (some ⟨g,o+0,none⟩)):=Pu.ok fun w=>by kernel_rfl
theorem b9N{g o:Nat}:Pu pG (xV (Instr.fieldAt 171 (.pointer (some ⟨g,o,none⟩)) 0)) (.pointer (some ⟨g,o+0,none⟩)):=Pu.ok fun w=>by kernel_rfl
theorem b9O{g o:Nat}:Pu pG (xV (Instr.fieldAt 171 (.pointer (some ⟨g,o,none⟩)) 1)) (.pointer (some ⟨g,o+1,none⟩)):=Pu.ok fun w=>by kernel_rfl
theorem c2V{a:Option Addr}{g o:Nat}(ha:a=some ⟨g,o,none⟩)(len cap:Nat)(k:IntKind)(i:Int)(h0:0≤i)(h1:i < len):Pu pG (xV (Instr.indexAt 169 (.slice a len cap) (.int k i))) (.pointer (some ⟨g,o+i.toNat*1,none⟩)):=a2b Tryz.underlying169 Tryz.sizeOf3 ha len cap k i h0 h1
theorem b7t(a0:Int)(a2:ByteArray):Pu pG (xV (Instr.build 39 #[(0,(Value.int .i64 a0)),(2,(Value.string a2))])) (.agg #[(Value.int .i64 a0),(Value.int .i64 0),(Value.string a2),(Value.slice none 0 0)]):=Pu.ok fun w=>by kernel_rfl
theorem b4S(a0:Int)(a2:ByteArray)(a3a:Option Addr)(a3n a3c:Nat):Pu pG (xV (Instr.build 39 #[(0,(Value.int .i64 a0)),(2,(Value.string a2)),(3,(Value.slice a3a a3n a3c))])) (.agg #[(Value.int .i64 a0),(Value.int .i64 0),(Value.string a2),(Value.slice a3a a3n a3c)]):=Pu.ok fun w=>by kernel_rfl
theorem b9P(a0:Int):Pu pG (xV (Instr.build 39 #[(0,(Value.int .i64 a0))])) (.agg #[(Value.int .i64 a0),(Value.int .i64 0),(Value.string ⟨#[]⟩),(Value.slice none 0 0)]):=Pu.ok fun w=>by kernel_rfl
theorem a2s(a0:Int)(a1:Int):Pu pG (xV (Instr.build 236 #[(0,(Value.int .i64 a0)),(1,(Value.int .i64 a1))])) (.agg #[(Value.int .i64 a0),(Value.int .i64 a1)]):=Pu.ok fun w=>by kernel_rfl
theorem c7V(d:Nat)(a0 b0:Int)(a1 b1:Int)(w:World):(Op.equalIn (d+2) 236 (.agg #[(Value.int .i64 a0),(Value.int .i64 a1)]) (.agg #[(Value.int .i64 b0),(Value.int .i64 b1)])).run pG w=.ok (decide (a0=b0∧a1=b1)) w:=by
  have u3:=Tryz.underlying3
  have i3:=Tryz.isAgg3
  have s3:=Tryz.sizeOf3
  have hS:Tryz.prog.underlying 236=some (.struct (Tryz.prog.fieldsOf 236)):=by kernel_rfl
  rw [run_equalIn_agg w (d+1) 236 _ _ hS (by kernel_rfl)]
  simp only [Program.fieldsOf,Tryz.underlying236]
  go_simp
  try simp only [b3V]
  by_cases h0:a0=b0
  · by_cases h1:a1=b1
    · simp [h0,h1]
    · simp [h0,h1]
  · simp [h0]
theorem a6o(x y:Operand)(a0 b0:Int)(a1 b1:Int):Pu pG (xBin .eql 236 x y (.agg #[(Value.int .i64 a0),(Value.int .i64 a1)]) (.agg #[(Value.int .i64 b0),(Value.int .i64 b1)])) (.bool (decide (a0=b0∧a1=b1))):=by
  refine Pu.ok (s:=do eqGuard .eql 236 x y (.agg #[(Value.int .i64 a0),(Value.int .i64 a1)]) (.agg #[(Value.int .i64 b0),(Value.int .i64 b1)]);binOp .eql 236 (.agg #[(Value.int .i64 a0),(Value.int .i64 a1)]) (.agg #[(Value.int .i64 b0),(Value.int .i64 b1)])) fun w=>?_
  rw [Sem.run_bind,run_eqGuard_agg w _ _ _ _ _ _ (by kernel_rfl),Result.andThen_ok,run_eql_struct,show (10000:Nat)=9998+2 from rfl,c7V]
  rfl
theorem c1N  : Pu pG (xV (Instr.build 236 #[])) (.agg #[(Value.int .i64 0),(Value.int .i64 0)]):=Pu.ok fun w=>by kernel_rfl
theorem c5B(a0a:Option Addr)(a0n a0c:Nat)(a1a:Option Addr)(a1n a1c:Nat)(a2a:Option Addr)(a2n a2c:Nat)(a3a:Option Addr)(a3n a3c:Nat)(w:World):(Instr.buildSlice 140 4 #[(0,(Value.slice a0a a0n a0c)),(1,(Value.slice a1a a1n a1c)),(2,(Value.slice a2a a2n a2c)),(3,(Value.slice a3a a3n a3c))]).run pG w=.ok (.slice (some ⟨w.heap.size,0,none⟩) 4 4) (w.alloc (.cells [(Value.slice a0a a0n a0c),(Value.slice a1a a1n a1c),(Value.slice a2a a2n a2c),(Value.slice a3a a3n a3c)].toArray 101)):=by kernel_rfl
theorem b8g(Y2:Int)(Y3:Int)(a0_2a:Option Addr)(a0_2n a0_2c:Nat)(a0_3a:Option Addr)(a0_3n a0_3c:Nat):Pu pG (xV (Instr.build 240 #[(0,(Value.agg #[(Value.int .i64 Y2),(Value.int .i64 Y3),(Value.slice a0_2a a0_2n a0_2c),(Value.slice a0_3a a0_3n a0_3c)]))])) (.agg #[(Value.int .i64 Y2),(Value.int .i64 Y3),(Value.slice a0_2a a0_2n a0_2c),(Value.slice a0_3a a0_3n a0_3c)]):=Pu.ok fun w=>by kernel_rfl
theorem b5R(x:V3):Pu pG (xV (Instr.makeInterface 240 (.agg #[(Value.int .i64 x.u6.d6),(Value.int .i64 x.u6.fOp),(Value.slice x.u6.p7.a x.u6.p7.n x.u6.p7.c),(Value.slice x.u6.E6.a x.u6.E6.n x.u6.E6.c)]))) (G6 (d8.P1 x)):=Pu.ok fun w=>rfl
theorem a1j{g o:Nat}:Pu pG (xV (Instr.fieldAt 240 (.pointer (some ⟨g,o,none⟩)) 0)) (.pointer (some ⟨g,o+0,none⟩)):=Pu.ok fun w=>by kernel_rfl
theorem a5t(a0:Int)(a1:Int):Pu pG (xV (Instr.build 242 #[(0,(Value.int .i64 a0)),(1,(Value.int .i64 a1))])) (.agg #[(Value.int .i64 a0),(Value.int .i64 a1)]):=Pu.ok fun w=>by kernel_rfl
theorem c7W(d:Nat)(a0 b0:Int)(a1 b1:Int)(w:World):(Op.equalIn (d+2) 242 (.agg #[(Value.int .i64 a0),(Value.int .i64 a1)]) (.agg #[(Value.int .i64 b0),(Value.int .i64 b1)])).run pG w=.ok (decide (a0=b0∧a1=b1)) w:=by
  have u3:=Tryz.underlying3
  have i3:=Tryz.isAgg3
  have s3:=Tryz.sizeOf3
  have hS:Tryz.prog.underlying 242=some (.struct (Tryz.prog.fieldsOf 242)):=by kernel_rfl
  rw [run_equalIn_agg w (d+1) 242 _ _ hS (by kernel_rfl)]
  simp only [Program.fieldsOf,Tryz.underlying242]
  go_simp
  try simp only [b3V]
  by_cases h0:a0=b0
  · by_cases h1:a1=b1
    · simp [h0,h1]
    · simp [h0,h1]
  · simp [h0]
theorem a9X(x y:Operand)(a0 b0:Int)(a1 b1:Int):Pu pG (xBin .eql 242 x y (.agg #[(Value.int .i64 a0),(Value.int .i64 a1)]) (.agg #[(Value.int .i64 b0),(Value.int .i64 b1)])) (.bool (decide (a0=b0∧a1=b1))):=by
  refine Pu.ok (s:=do eqGuard .eql 242 x y (.agg #[(Value.int .i64 a0),(Value.int .i64 a1)]) (.agg #[(Value.int .i64 b0),(Value.int .i64 b1)]);binOp .eql 242 (.agg #[(Value.int .i64 a0),(Value.int .i64 a1)]) (.agg #[(Value.int .i64 b0),(Value.int .i64 b1)])) fun w=>?_
  rw [Sem.run_bind,run_eqGuard_agg w _ _ _ _ _ _ (by kernel_rfl),Result.andThen_ok,run_eql_struct,show (10000:Nat)=9998+2 from rfl,c7W]
  rfl
theorem c1O  : Pu pG (xV (Instr.build 242 #[])) (.agg #[(Value.int .i64 0),(Value.int .i64 0)]):=Pu.ok fun w=>by kernel_rfl
abbrev o7(x:g9):List Value:=[(Value.slice x.a0f.a x.a0f.n x.a0f.c),(Value.slice x.a5h.a x.a5h.n x.a5h.c)]
abbrev m8(x:c8):List Value:=[(Value.int .i64 x.M8),(Value.int .i64 x.V1)]
abbrev b0A(x:m7):List Value:=[(Value.int .i64 x.fnodes),(Value.int .i64 x.fdepth),(Value.int .i64 x.fe),(Value.bool x.fform),(Value.bool x.fnamed),(Value.slice x.fnames.a x.fnames.n x.fnames.c)]
abbrev b9(x:a8):List Value:=[(Value.slice x.fl.a x.fl.n x.fl.c),(Value.int .i64 x.fn)]
abbrev U8(x:a1u):List Value:=[(Value.slice x.fsigns.a x.fsigns.n x.fsigns.c),(Value.slice x.fkinds.a x.fkinds.n x.fkinds.c),x.fpart]
end Go.Proofs.YtoflkliecagjcaaGreatDoor
