/- Single operations at this program's types, and its structures; printed by lift.py. -/
import Derived.KernelRfl
import Derived.Laws.StructEq
import Derived.Laws.Cover2
import Derived.Test.YtnhdnncbjddmjaaGreatDooryES5
import Derived.Test.YtnhdnncbjddmjaaGreatDooryEGz
namespace Go.Proofs.YtnhdnncbjddmjaaGreatDoor
open Go.RowKit
set_option maxRecDepth 100000
set_option maxHeartbeats 2000000
structure l9 where
  G1:Sl
  Z1:Sl
structure d8 where
  b8:Int
  a0w:Int
  f4:ByteArray
  r5:Sl
structure r6 where
  faddr:(Option Addr)
  fbuf:Sl
structure c5 where
  A9:r6
  fdeep:Int
structure G4 where
  f4:ByteArray
  L3:Int
structure i6 where
  b8:Int
  f4:ByteArray
  f0:Sl
  m7:Sl
  D1:Sl
  A6:Sl
structure d4 where
  fs:ByteArray
structure f9 where
  b8:Int
  fOp:Int
  f0:Sl
  o0:Sl
structure f7 where
  fnodes:Int
  fdepth:Int
  fe:Int
  fform:Bool
  fnamed:Bool
  fnames:Sl
structure b7 where
  fn:Int
  fdepth:Int
  fbad:Int
structure a8 where
  fok:Bool
  fnames:Bool
structure B6 where
  m8:d8
structure O7 where
  T7:G4
structure L4 where
  d6:i6
structure L5 where
  k6:f9
structure p6 where
  fexprs:Int
  fconds:Int
structure g9 where
  fexprs:Int
  fparts:Int
abbrev adv(g:Nat)(x:Option Addr):Value:=Value.pointer (match x with | none=>none | some _=>some ⟨g,0,none⟩)
abbrev d5(g:Nat)(x:c5)(s0:Sl):List Value:=[(adv g x.A9.faddr),(vs s0),(vi x.fdeep)]
abbrev f2(x:c5):c5:=c5.mk (r6.mk x.A9.faddr (Sl.mk none 0 0)) x.fdeep
abbrev X9(x:f7)(s0:Sl):List Value:=[(vi x.fnodes),(vi x.fdepth),(vi x.fe),(Value.bool x.fform),(Value.bool x.fnamed),(vs s0)]
abbrev U4(x:f7):f7:=f7.mk x.fnodes x.fdepth x.fe x.fform x.fnamed (Sl.mk none 0 0)
inductive c6 where
  | nil
  | v1 (x:B6)
  | D5 (x:O7)
  | B4 (x:L4)
  | E5 (x:L5)
def A8:c6→Value
  | .nil=>.nilIface
  | .v1 x=>.iface 85 (.agg #[(Value.int .i64 x.m8.b8),(Value.int .i64 x.m8.a0w),(Value.string x.m8.f4),(Value.slice x.m8.r5.a x.m8.r5.n x.m8.r5.c)])
  | .D5 x=>.iface 118 (.agg #[(Value.string x.T7.f4),(Value.int .i64 x.T7.L3)])
  | .B4 x=>.iface 120 (.agg #[(Value.int .i64 x.d6.b8),(Value.string x.d6.f4),(Value.slice x.d6.f0.a x.d6.f0.n x.d6.f0.c),(Value.slice x.d6.m7.a x.d6.m7.n x.d6.m7.c),(Value.slice x.d6.D1.a x.d6.D1.n x.d6.D1.c),(Value.slice x.d6.A6.a x.d6.A6.n x.d6.A6.c)])
  | .E5 x=>.iface 185 (.agg #[(Value.int .i64 x.k6.b8),(Value.int .i64 x.k6.fOp),(Value.slice x.k6.f0.a x.k6.f0.n x.k6.f0.c),(Value.slice x.k6.o0.a x.k6.o0.n x.k6.o0.c)])
theorem b0l(x:c6):[A8 x].all (·.oneCell')=true:=by cases x<;>rfl
def c6.B0:c6→B6
  | .v1 x=>x
  | _=>(B6.mk (d8.mk 0 0 ⟨#[]⟩ (Sl.mk none 0 0)))
def c6.a3k:c6→Bool
  | .v1 _=>true
  | _=>false
def c6.a0Q:c6→O7
  | .D5 x=>x
  | _=>(O7.mk (G4.mk ⟨#[]⟩ 0))
def c6.a3l:c6→Bool
  | .D5 _=>true
  | _=>false
def c6.o5:c6→L4
  | .B4 x=>x
  | _=>(L4.mk (i6.mk 0 ⟨#[]⟩ (Sl.mk none 0 0) (Sl.mk none 0 0) (Sl.mk none 0 0) (Sl.mk none 0 0)))
def c6.a3m:c6→Bool
  | .B4 _=>true
  | _=>false
theorem a5c(a0:Int)(a1:Int):Pu pG (xV (Instr.build 36 #[(0,(Value.int .i64 a0)),(1,(Value.int .i64 a1))])) (.agg #[(Value.int .i64 a0),(Value.int .i64 a1),(Value.string ⟨#[]⟩),(Value.slice none 0 0)]):=Pu.ok fun w=>by kernel_rfl
abbrev c7(x:d8):List Value:=[(Value.int .i64 x.b8),(Value.int .i64 x.a0w),(Value.string x.f4),(Value.slice x.r5.a x.r5.n x.r5.c)]
theorem a7y(x:d8):(c7 x).length=4:=rfl
theorem a7z(x:d8):(c7 x).all (·.oneCell')=true:=rfl
theorem b2R(a4a:Int)(a4b:Int)(b0M:ByteArray)(a0_3a:Option Addr)(a0_3n a0_3c:Nat)(b8g:Int)(b8h:Int)(b8i:ByteArray)(a1_3a:Option Addr)(a1_3n a1_3c:Nat)(w:World):(Instr.buildSlice 34 2 #[(0,(Value.agg #[(Value.int .i64 a4a),(Value.int .i64 a4b),(Value.string b0M),(Value.slice a0_3a a0_3n a0_3c)])),(1,(Value.agg #[(Value.int .i64 b8g),(Value.int .i64 b8h),(Value.string b8i),(Value.slice a1_3a a1_3n a1_3c)]))]).run pG w=.ok (.slice (some ⟨w.heap.size,0,none⟩) 2 2) (w.alloc (.cells [(Value.int .i64 a4a),(Value.int .i64 a4b),(Value.string b0M),(Value.slice a0_3a a0_3n a0_3c),(Value.int .i64 b8g),(Value.int .i64 b8h),(Value.string b8i),(Value.slice a1_3a a1_3n a1_3c)].toArray 36)):=by kernel_rfl
theorem a7A(a0:Int)(a3a:Option Addr)(a3n a3c:Nat):Pu pG (xV (Instr.build 36 #[(0,(Value.int .i64 a0)),(3,(Value.slice a3a a3n a3c))])) (.agg #[(Value.int .i64 a0),(Value.int .i64 0),(Value.string ⟨#[]⟩),(Value.slice a3a a3n a3c)]):=Pu.ok fun w=>by kernel_rfl
theorem a9V  : Pu pG (xV (Instr.build 44 #[])) (.agg #[(Value.pointer none),(Value.slice none 0 0),(Value.int .i64 0)]):=Pu.ok fun w=>by kernel_rfl
theorem a0x{g o:Nat}:Pu pG (xV (Instr.fieldAt 25 (.pointer (some ⟨g,o,none⟩)) 0)) (.pointer (some ⟨g,o+0,none⟩)):=Pu.ok fun w=>by kernel_rfl
theorem a4V(a:Option Addr)(n c:Nat):Pu pG (xBuiltin .len #[22] 3 [false] [.slice a n c]) (.int .i64 (n:Int)):=Z6 Tryz.underlying22 a n c
theorem a4I{a:Option Addr}{g o:Nat}(ha:a=some ⟨g,o,none⟩)(len cap:Nat)(k:IntKind)(i:Int)(h0:0≤i)(h1:i < len):Pu pG (xV (Instr.indexAt 22 (.slice a len cap) (.int k i))) (.pointer (some ⟨g,o+i.toNat*2,none⟩)):=a2g Tryz.underlying22 Tryz.sizeOf46 ha len cap k i h0 h1
theorem a1J{g o:Nat}:Pu pG (xV (Instr.fieldAt 46 (.pointer (some ⟨g,o,none⟩)) 1)) (.pointer (some ⟨g,o+1,none⟩)):=Pu.ok fun w=>by kernel_rfl
theorem a3o{g o:Nat}:Pu pG (xV (Instr.fieldAt 46 (.pointer (some ⟨g,o,none⟩)) 0)) (.pointer (some ⟨g,o+0,none⟩)):=Pu.ok fun w=>by kernel_rfl
abbrev j8(x:ByteArray):List Value:=[(Value.string x)]
theorem D6(x:ByteArray):(j8 x).length=1:=rfl
theorem D7(x:ByteArray):(j8 x).all (·.oneCell')=true:=rfl
theorem a9r(a0:ByteArray)(a1:ByteArray)(a2:ByteArray)(w:World):(Instr.buildSlice 63 3 #[(0,(Value.string a0)),(1,(Value.string a1)),(2,(Value.string a2))]).run pG w=.ok (.slice (some ⟨w.heap.size,0,none⟩) 3 3) (w.alloc (.cells [(Value.string a0),(Value.string a1),(Value.string a2)].toArray 9)):=by kernel_rfl
abbrev k9(x:Int):List Value:=[(Value.int .u8 x)]
theorem a6Z(x:Int):(k9 x).length=1:=rfl
theorem a7a(x:Int):(k9 x).all (·.oneCell')=true:=rfl
theorem b6W(a0:ByteArray)(a1:ByteArray)(a2:ByteArray)(a3:ByteArray)(a4:ByteArray)(w:World):(Instr.buildSlice 63 5 #[(0,(Value.string a0)),(1,(Value.string a1)),(2,(Value.string a2)),(3,(Value.string a3)),(4,(Value.string a4))]).run pG w=.ok (.slice (some ⟨w.heap.size,0,none⟩) 5 5) (w.alloc (.cells [(Value.string a0),(Value.string a1),(Value.string a2),(Value.string a3),(Value.string a4)].toArray 9)):=by kernel_rfl
theorem a2i{g o:Nat}:Pu pG (xV (Instr.fieldAt 25 (.pointer (some ⟨g,o,none⟩)) 1)) (.pointer (some ⟨g,o+1,none⟩)):=Pu.ok fun w=>by kernel_rfl
theorem K8(a:Option Addr)(n c:Nat):Pu pG (xBuiltin .len #[23] 3 [false] [.slice a n c]) (.int .i64 (n:Int)):=Z6 Tryz.underlying23 a n c
theorem a1P{a:Option Addr}{g o:Nat}(ha:a=some ⟨g,o,none⟩)(len cap:Nat)(k:IntKind)(i:Int)(h0:0≤i)(h1:i < len):Pu pG (xV (Instr.indexAt 23 (.slice a len cap) (.int k i))) (.pointer (some ⟨g,o+i.toNat*6,none⟩)):=a2g Tryz.underlying23 Tryz.sizeOf51 ha len cap k i h0 h1
theorem a5o{g o:Nat}:Pu pG (xV (Instr.fieldAt 44 (.pointer (some ⟨g,o,none⟩)) 0)) (.pointer (some ⟨g,o+0,none⟩)):=Pu.ok fun w=>by kernel_rfl
theorem a4c{g o:Nat}:Pu pG (xV (Instr.fieldAt 42 (.pointer (some ⟨g,o,none⟩)) 1)) (.pointer (some ⟨g,o+1,none⟩)):=Pu.ok fun w=>by kernel_rfl
theorem U5{g o:Nat}:Pu pG (xV (Instr.fieldAt 51 (.pointer (some ⟨g,o,none⟩)) 0)) (.pointer (some ⟨g,o+0,none⟩)):=Pu.ok fun w=>by kernel_rfl
theorem b4j  : Pu pG (xV (Instr.build 57 #[])) (.agg #[(Value.string ⟨#[]⟩)]):=Pu.ok fun w=>by kernel_rfl
theorem a3p{g o:Nat}:Pu pG (xV (Instr.fieldAt 57 (.pointer (some ⟨g,o,none⟩)) 0)) (.pointer (some ⟨g,o+0,none⟩)):=Pu.ok fun w=>by kernel_rfl
theorem a2P(s:ByteArray):Pu pG (xBuiltin .len #[9] 3 [false] [.string s]) (.int .i64 (s.size:Int)):=b3j _ _ s Tryz.underlying9
theorem a0y{g o:Nat}:Pu pG (xV (Instr.fieldAt 51 (.pointer (some ⟨g,o,none⟩)) 1)) (.pointer (some ⟨g,o+1,none⟩)):=Pu.ok fun w=>by kernel_rfl
theorem O8{g o:Nat}:Pu pG (xV (Instr.fieldAt 51 (.pointer (some ⟨g,o,none⟩)) 2)) (.pointer (some ⟨g,o+2,none⟩)):=Pu.ok fun w=>by kernel_rfl
theorem B3{a:Option Addr}{g o:Nat}(ha:a=some ⟨g,o,none⟩)(len cap:Nat)(k:IntKind)(i:Int)(h0:0≤i)(h1:i < len):Pu pG (xV (Instr.indexAt 34 (.slice a len cap) (.int k i))) (.pointer (some ⟨g,o+i.toNat*4,none⟩)):=a2g Tryz.underlying34 Tryz.sizeOf36 ha len cap k i h0 h1
theorem L6{g o:Nat}:Pu pG (xV (Instr.fieldAt 51 (.pointer (some ⟨g,o,none⟩)) 3)) (.pointer (some ⟨g,o+3,none⟩)):=Pu.ok fun w=>by kernel_rfl
theorem G8{a:Option Addr}{g o:Nat}(ha:a=some ⟨g,o,none⟩)(len cap:Nat)(k:IntKind)(i:Int)(h0:0≤i)(h1:i < len):Pu pG (xV (Instr.indexAt 49 (.slice a len cap) (.int k i))) (.pointer (some ⟨g,o+i.toNat*4,none⟩)):=a2g Tryz.underlying49 Tryz.sizeOf71 ha len cap k i h0 h1
theorem U6{g o:Nat}:Pu pG (xV (Instr.fieldAt 51 (.pointer (some ⟨g,o,none⟩)) 4)) (.pointer (some ⟨g,o+4,none⟩)):=Pu.ok fun w=>by kernel_rfl
theorem R0{g o:Nat}:Pu pG (xV (Instr.fieldAt 51 (.pointer (some ⟨g,o,none⟩)) 5)) (.pointer (some ⟨g,o+5,none⟩)):=Pu.ok fun w=>by kernel_rfl
theorem L8{g o:Nat}:Pu pG (xV (Instr.fieldAt 36 (.pointer (some ⟨g,o,none⟩)) 0)) (.pointer (some ⟨g,o+0,none⟩)):=Pu.ok fun w=>by kernel_rfl
theorem a3q{g o:Nat}:Pu pG (xV (Instr.fieldAt 36 (.pointer (some ⟨g,o,none⟩)) 1)) (.pointer (some ⟨g,o+1,none⟩)):=Pu.ok fun w=>by kernel_rfl
theorem O9(a0:ByteArray)(w:World):(Instr.buildSlice 63 1 #[(0,(Value.string a0))]).run pG w=.ok (.slice (some ⟨w.heap.size,0,none⟩) 1 1) (w.alloc (.cells [(Value.string a0)].toArray 9)):=by kernel_rfl
theorem b4k(a:Option Addr)(n c:Nat):Pu pG (xBuiltin .len #[63] 3 [false] [.slice a n c]) (.int .i64 (n:Int)):=Z6 Tryz.underlying63 a n c
theorem b0N{a:Option Addr}{g o:Nat}(ha:a=some ⟨g,o,none⟩)(len cap:Nat)(k:IntKind)(i:Int)(h0:0≤i)(h1:i < len):Pu pG (xV (Instr.indexAt 63 (.slice a len cap) (.int k i))) (.pointer (some ⟨g,o+i.toNat*1,none⟩)):=a2g Tryz.underlying63 Tryz.sizeOf9 ha len cap k i h0 h1
theorem a7b{g o:Nat}:Pu pG (xV (Instr.fieldAt 42 (.pointer (some ⟨g,o,none⟩)) 0)) (.pointer (some ⟨g,o+0,none⟩)):=Pu.ok fun w=>by kernel_rfl
theorem c0n:Tryz.prog.info? 5=some ((Tryz.prog.info? 5).getD default):=by kernel_rfl
theorem b4l{E:Pan}{w0 w:World}{ps:Nat→Prop}{H0 H:Hp}{Fs:List Frag}{K:Value→World→Prop}{s:Sl}{xs:List Int}{F:Frag}{b:ByteArray}{ks:List Bool}{ty:TypeId}(I:Inv w0 ps H0 H (F::Fs) w)(hr:RowL 5 1 k9 s xs F)(hb:(xs.length+b.size)*2≤140737488355328)(h:∀(s':Sl)(F':Frag)(w':World),RowL 5 1 k9 s' (xs++sbytes b) F'→Inv w0 ps H0 H (F'::Fs) w'→(∀k,k < w.heap.size→(∀p∈F,p.1≠k)→w'.heap[k]? = w.heap[k]?)→K (.slice s'.a s'.n s'.c) w'):opK pG E (xBuiltin .append #[40,9] ty ks [.slice s.a s.n s.c,.string b]) w K:=
  b5F (bytes:=1) (fun _=>rfl) Tryz.underlying40 Tryz.underlying9 c0n (by kernel_rfl) (by kernel_rfl) (by kernel_rfl) I hr b hb h
theorem a2j{g o:Nat}:Pu pG (xV (Instr.fieldAt 36 (.pointer (some ⟨g,o,none⟩)) 2)) (.pointer (some ⟨g,o+2,none⟩)):=Pu.ok fun w=>by kernel_rfl
theorem a7Z(a0:ByteArray)(a1:ByteArray)(w:World):(Instr.buildSlice 63 2 #[(0,(Value.string a0)),(1,(Value.string a1))]).run pG w=.ok (.slice (some ⟨w.heap.size,0,none⟩) 2 2) (w.alloc (.cells [(Value.string a0),(Value.string a1)].toArray 9)):=by kernel_rfl
theorem G3{g o:Nat}:Pu pG (xV (Instr.fieldAt 36 (.pointer (some ⟨g,o,none⟩)) 3)) (.pointer (some ⟨g,o+3,none⟩)):=Pu.ok fun w=>by kernel_rfl
theorem a3r{g o:Nat}:Pu pG (xV (Instr.fieldAt 65 (.pointer (some ⟨g,o,none⟩)) 2)) (.pointer (some ⟨g,o+2,none⟩)):=Pu.ok fun w=>by kernel_rfl
theorem N5{g o:Nat}:Pu pG (xV (Instr.fieldAt 76 (.pointer (some ⟨g,o,none⟩)) 2)) (.pointer (some ⟨g,o+2,none⟩)):=Pu.ok fun w=>by kernel_rfl
theorem b0m(a0:Bool)(a1:Bool):Pu pG (xV (Instr.build 79 #[(0,(Value.bool a0)),(1,(Value.bool a1))])) (.agg #[(Value.bool a0),(Value.bool a1)]):=Pu.ok fun w=>by kernel_rfl
theorem B7{g o:Nat}:Pu pG (xV (Instr.fieldAt 79 (.pointer (some ⟨g,o,none⟩)) 0)) (.pointer (some ⟨g,o+0,none⟩)):=Pu.ok fun w=>by kernel_rfl
theorem a7c{g o:Nat}:Pu pG (xV (Instr.fieldAt 79 (.pointer (some ⟨g,o,none⟩)) 1)) (.pointer (some ⟨g,o+1,none⟩)):=Pu.ok fun w=>by kernel_rfl
theorem T6(a:Option Addr)(n c:Nat):Pu pG (xBuiltin .len #[34] 3 [false] [.slice a n c]) (.int .i64 (n:Int)):=Z6 Tryz.underlying34 a n c
theorem a1K(a:Option Addr)(n c:Nat):Pu pG (xBuiltin .len #[49] 3 [false] [.slice a n c]) (.int .i64 (n:Int)):=Z6 Tryz.underlying49 a n c
theorem Z2{g o:Nat}:Pu pG (xV (Instr.fieldAt 71 (.pointer (some ⟨g,o,none⟩)) 0)) (.pointer (some ⟨g,o+0,none⟩)):=Pu.ok fun w=>by kernel_rfl
theorem a1L{g o:Nat}:Pu pG (xV (Instr.fieldAt 71 (.pointer (some ⟨g,o,none⟩)) 1)) (.pointer (some ⟨g,o+1,none⟩)):=Pu.ok fun w=>by kernel_rfl
theorem U7{g o:Nat}:Pu pG (xV (Instr.fieldAt 71 (.pointer (some ⟨g,o,none⟩)) 2)) (.pointer (some ⟨g,o+2,none⟩)):=Pu.ok fun w=>by kernel_rfl
theorem K3{g o:Nat}:Pu pG (xV (Instr.fieldAt 71 (.pointer (some ⟨g,o,none⟩)) 3)) (.pointer (some ⟨g,o+3,none⟩)):=Pu.ok fun w=>by kernel_rfl
theorem b4m(k:IntKind)(n:Int):Pu pG (xV (convert 2 5 (.int k n))) (.int .u8 (IntKind.wrap .u8 n)):=Pu.ok fun w=>run_convert_int (P:=pG) (w:=w) 2 5 k n (by rw [Tryz.underlying2];rfl) Tryz.underlying5
theorem b6X(a0:Int)(w:World):(Instr.buildSlice 40 1 #[(0,(Value.int .u8 a0))]).run pG w=.ok (.slice (some ⟨w.heap.size,0,none⟩) 1 1) (w.alloc (.cells [(Value.int .u8 a0)].toArray 5)):=by kernel_rfl
theorem a8z(a4a:Int)(a4b:Int)(b0M:ByteArray)(a0_3a:Option Addr)(a0_3n a0_3c:Nat):Pu pG (xV (Instr.build 85 #[(0,(Value.agg #[(Value.int .i64 a4a),(Value.int .i64 a4b),(Value.string b0M),(Value.slice a0_3a a0_3n a0_3c)]))])) (.agg #[(Value.int .i64 a4a),(Value.int .i64 a4b),(Value.string b0M),(Value.slice a0_3a a0_3n a0_3c)]):=Pu.ok fun w=>by kernel_rfl
theorem a5I(x:B6):Pu pG (xV (Instr.makeInterface 85 (.agg #[(Value.int .i64 x.m8.b8),(Value.int .i64 x.m8.a0w),(Value.string x.m8.f4),(Value.slice x.m8.r5.a x.m8.r5.n x.m8.r5.c)]))) (A8 (c6.v1 x)):=Pu.ok fun w=>rfl
abbrev l7(x:c6):List Value:=[(A8 x)]
theorem G9(x:c6):(l7 x).length=1:=rfl
theorem K4(x:c6):(l7 x).all (·.oneCell')=true:=b0l x
theorem a6H(a0:c6)(w:World):(Instr.buildSlice 86 1 #[(0,(A8 a0))]).run pG w=.ok (.slice (some ⟨w.heap.size,0,none⟩) 1 1) (w.alloc (.cells [(A8 a0)].toArray 92)):=by cases a0<;>kernel_rfl
theorem b0O(a0a:Option Addr)(a0n a0c:Nat)(a1a:Option Addr)(a1n a1c:Nat)(w:World):(Instr.buildSlice 115 2 #[(0,(Value.slice a0a a0n a0c)),(1,(Value.slice a1a a1n a1c))]).run pG w=.ok (.slice (some ⟨w.heap.size,0,none⟩) 2 2) (w.alloc (.cells [(Value.slice a0a a0n a0c),(Value.slice a1a a1n a1c)].toArray 86)):=by kernel_rfl
theorem a4d{g o:Nat}:Pu pG (xV (Instr.fieldAt 44 (.pointer (some ⟨g,o,none⟩)) 1)) (.pointer (some ⟨g,o+2,none⟩)):=Pu.ok fun w=>by kernel_rfl
theorem b4n  : Pu pG (xV (Instr.build 76 #[])) (.agg #[(Value.int .i64 0),(Value.int .i64 0),(Value.int .i64 0)]):=Pu.ok fun w=>by kernel_rfl
theorem a7d{g o:Nat}:Pu pG (xV (Instr.fieldAt 76 (.pointer (some ⟨g,o,none⟩)) 0)) (.pointer (some ⟨g,o+0,none⟩)):=Pu.ok fun w=>by kernel_rfl
theorem a8Y{g o:Nat}:Pu pG (xV (Instr.fieldAt 76 (.pointer (some ⟨g,o,none⟩)) 1)) (.pointer (some ⟨g,o+1,none⟩)):=Pu.ok fun w=>by kernel_rfl
theorem a4e(a0 a1 a2 a3 a4:ByteArray):Pu pG (xV (Instr.build 109 #[(0,.string a0),(1,.string a1),(2,.string a2),(3,.string a3),(4,.string a4)])) (.agg #[.string a0,.string a1,.string a2,.string a3,.string a4]):=Pu.ok fun w=>by kernel_rfl
theorem b3p{g o:Nat}(k:IntKind)(i:Int)(h0:0≤i)(h1:i < 5):Pu pG (xV (Instr.indexAt 109 (.pointer (some ⟨g,o,none⟩)) (.int k i))) (.pointer (some ⟨g,o+i.toNat*1,none⟩)):=a8y Tryz.underlying109 Tryz.sizeOf9 k i h0 h1
theorem b4o  : Pu pG (xV (Instr.build 65 #[])) (.agg #[(Value.int .i64 0),(Value.int .i64 0),(Value.int .i64 0),(Value.bool false),(Value.bool false),(Value.slice none 0 0)]):=Pu.ok fun w=>by kernel_rfl
theorem a6q(a:Option Addr)(n c:Nat):Pu pG (xBuiltin .len #[86] 3 [false] [.slice a n c]) (.int .i64 (n:Int)):=Z6 Tryz.underlying86 a n c
theorem b5G{a:Option Addr}{g o:Nat}(ha:a=some ⟨g,o,none⟩)(len cap:Nat)(k:IntKind)(i:Int)(h0:0≤i)(h1:i < len):Pu pG (xV (Instr.indexAt 86 (.slice a len cap) (.int k i))) (.pointer (some ⟨g,o+i.toNat*1,none⟩)):=a2g Tryz.underlying86 Tryz.sizeOf92 ha len cap k i h0 h1
theorem a7e{g o:Nat}:Pu pG (xV (Instr.fieldAt 65 (.pointer (some ⟨g,o,none⟩)) 0)) (.pointer (some ⟨g,o+0,none⟩)):=Pu.ok fun w=>by kernel_rfl
theorem a8Z{g o:Nat}:Pu pG (xV (Instr.fieldAt 65 (.pointer (some ⟨g,o,none⟩)) 1)) (.pointer (some ⟨g,o+1,none⟩)):=Pu.ok fun w=>by kernel_rfl
theorem a7f{g o:Nat}:Pu pG (xV (Instr.fieldAt 65 (.pointer (some ⟨g,o,none⟩)) 3)) (.pointer (some ⟨g,o+3,none⟩)):=Pu.ok fun w=>by kernel_rfl
theorem a7g{g o:Nat}:Pu pG (xV (Instr.fieldAt 65 (.pointer (some ⟨g,o,none⟩)) 4)) (.pointer (some ⟨g,o+4,none⟩)):=Pu.ok fun w=>by kernel_rfl
theorem a7h{g o:Nat}:Pu pG (xV (Instr.fieldAt 65 (.pointer (some ⟨g,o,none⟩)) 5)) (.pointer (some ⟨g,o+5,none⟩)):=Pu.ok fun w=>by kernel_rfl
theorem c0o:Tryz.prog.info? 9=some ((Tryz.prog.info? 9).getD default):=by kernel_rfl
theorem b8j{E:Pan}{w0 w:World}{ps:Nat→Prop}{H0 H:Hp}{Fs:List Frag}{K:Value→World→Prop}{s:Sl}{xs:List ByteArray}{F:Frag}{t2:Sl}{ys:List ByteArray}{ks:List Bool}{ty:TypeId}(I:Inv w0 ps H0 H (F::Fs) w)(hr:RowL 9 1 j8 s xs F)(hs:SrcO w j8 t2 ys)(hb:(xs.length+ys.length)*17≤140737488355328)(h:∀(s':Sl)(F':Frag)(w':World),RowL 9 1 j8 s' (xs++ys) F'→Inv w0 ps H0 H (F'::Fs) w'→(∀k,k < w.heap.size→(∀p∈F,p.1≠k)→w'.heap[k]? = w.heap[k]?)→K (.slice s'.a s'.n s'.c) w'):opK pG E (xBuiltin .append #[63,63] ty ks [.slice s.a s.n s.c,.slice t2.a t2.n t2.c]) w K:=
  b6t (bytes:=16) Tryz.underlying63 c0o (z:=(Value.string ⟨#[]⟩)) (by kernel_rfl) (by kernel_rfl) (by kernel_rfl) (by kernel_rfl) I hr hs hb h
theorem b3q(a0 a1 a2 a3 a4:ByteArray)(k:IntKind)(i:Int)(h0:0≤i)(h1:i < 5):Pu pG (xV (Instr.index 109 (.agg #[.string a0,.string a1,.string a2,.string a3,.string a4]) (.int k i))) (.string (([a0,a1,a2,a3,a4]:List ByteArray).getD i.toNat ⟨#[]⟩)):=by
  obtain rfl | rfl | rfl | rfl | rfl:=(by omega:i=0∨i=1∨i=2∨i=3∨i=4)
  · exact Pu.ok fun w=>by kernel_rfl
  · exact Pu.ok fun w=>by kernel_rfl
  · exact Pu.ok fun w=>by kernel_rfl
  · exact Pu.ok fun w=>by kernel_rfl
  · exact Pu.ok fun w=>by kernel_rfl
theorem a9a(a:Option Addr)(n c:Nat):Pu pG (xBuiltin .len #[115] 3 [false] [.slice a n c]) (.int .i64 (n:Int)):=Z6 Tryz.underlying115 a n c
theorem a9W{a:Option Addr}{g o:Nat}(ha:a=some ⟨g,o,none⟩)(len cap:Nat)(k:IntKind)(i:Int)(h0:0≤i)(h1:i < len):Pu pG (xV (Instr.indexAt 115 (.slice a len cap) (.int k i))) (.pointer (some ⟨g,o+i.toNat*1,none⟩)):=a2g Tryz.underlying115 Tryz.sizeOf86 ha len cap k i h0 h1
theorem b4p(s:ByteArray):Pu pG (xV (Instr.makeInterface 9 (.string s))) (.iface 9 (.string s)):=Pu.ok fun w=>by kernel_rfl
theorem b4q:Tryz.prog.info? 92=some ((Tryz.prog.info? 92).getD default):=by kernel_rfl
theorem a7K{E:Pan}{w0 w:World}{ps:Nat→Prop}{H0 H:Hp}{Fs:List Frag}{K:Value→World→Prop}{s:Sl}{xs:List c6}{F:Frag}{t2:Sl}{ys:List c6}{ks:List Bool}{ty:TypeId}(I:Inv w0 ps H0 H (F::Fs) w)(hr:RowL 92 1 l7 s xs F)(hs:SrcO w l7 t2 ys)(hb:(xs.length+ys.length)*17≤140737488355328)(h:∀(s':Sl)(F':Frag)(w':World),RowL 92 1 l7 s' (xs++ys) F'→Inv w0 ps H0 H (F'::Fs) w'→(∀k,k < w.heap.size→(∀p∈F,p.1≠k)→w'.heap[k]? = w.heap[k]?)→K (.slice s'.a s'.n s'.c) w'):opK pG E (xBuiltin .append #[86,86] ty ks [.slice s.a s.n s.c,.slice t2.a t2.n t2.c]) w K:=
  b6t (bytes:=16) Tryz.underlying86 b4q (z:=Value.nilIface) (by kernel_rfl) (by kernel_rfl) (by kernel_rfl) (by kernel_rfl) I hr hs hb h
theorem b0P(a4a:ByteArray)(a4b:Int):Pu pG (xV (Instr.build 118 #[(0,(Value.agg #[(Value.string a4a),(Value.int .i64 a4b)]))])) (.agg #[(Value.string a4a),(Value.int .i64 a4b)]):=Pu.ok fun w=>by kernel_rfl
theorem b0n(x:O7):Pu pG (xV (Instr.makeInterface 118 (.agg #[(Value.string x.T7.f4),(Value.int .i64 x.T7.L3)]))) (A8 (c6.D5 x)):=Pu.ok fun w=>rfl
theorem b0Q(a4a:Int)(a4b:ByteArray)(a0_2a:Option Addr)(a0_2n a0_2c:Nat)(a0_3a:Option Addr)(a0_3n a0_3c:Nat)(a0_4a:Option Addr)(a0_4n a0_4c:Nat)(a0_5a:Option Addr)(a0_5n a0_5c:Nat):Pu pG (xV (Instr.build 120 #[(0,(Value.agg #[(Value.int .i64 a4a),(Value.string a4b),(Value.slice a0_2a a0_2n a0_2c),(Value.slice a0_3a a0_3n a0_3c),(Value.slice a0_4a a0_4n a0_4c),(Value.slice a0_5a a0_5n a0_5c)]))])) (.agg #[(Value.int .i64 a4a),(Value.string a4b),(Value.slice a0_2a a0_2n a0_2c),(Value.slice a0_3a a0_3n a0_3c),(Value.slice a0_4a a0_4n a0_4c),(Value.slice a0_5a a0_5n a0_5c)]):=Pu.ok fun w=>by kernel_rfl
theorem b0o(x:L4):Pu pG (xV (Instr.makeInterface 120 (.agg #[(Value.int .i64 x.d6.b8),(Value.string x.d6.f4),(Value.slice x.d6.f0.a x.d6.f0.n x.d6.f0.c),(Value.slice x.d6.m7.a x.d6.m7.n x.d6.m7.c),(Value.slice x.d6.D1.a x.d6.D1.n x.d6.D1.c),(Value.slice x.d6.A6.a x.d6.A6.n x.d6.A6.c)]))) (A8 (c6.B4 x)):=Pu.ok fun w=>rfl
theorem a3L(a0 a1 a2 a3 a4 a5:ByteArray):Pu pG (xV (Instr.build 132 #[(0,.string a0),(1,.string a1),(2,.string a2),(3,.string a3),(4,.string a4),(5,.string a5)])) (.agg #[.string a0,.string a1,.string a2,.string a3,.string a4,.string a5]):=Pu.ok fun w=>by kernel_rfl
theorem b3r(a0 a1 a2 a3 a4 a5:ByteArray)(k:IntKind)(i:Int)(h0:0≤i)(h1:i < 6):Pu pG (xV (Instr.index 132 (.agg #[.string a0,.string a1,.string a2,.string a3,.string a4,.string a5]) (.int k i))) (.string (([a0,a1,a2,a3,a4,a5]:List ByteArray).getD i.toNat ⟨#[]⟩)):=by
  obtain rfl | rfl | rfl | rfl | rfl | rfl:=(by omega:i=0∨i=1∨i=2∨i=3∨i=4∨i=5)
  · exact Pu.ok fun w=>by kernel_rfl
  · exact Pu.ok fun w=>by kernel_rfl
  · exact Pu.ok fun w=>by kernel_rfl
  · exact Pu.ok fun w=>by kernel_rfl
  · exact Pu.ok fun w=>by kernel_rfl
  · exact Pu.ok fun w=>by kernel_rfl
theorem b3s{g o:Nat}(k:IntKind)(i:Int)(h0:0≤i)(h1:i < 6):Pu pG (xV (Instr.indexAt 132 (.pointer (some ⟨g,o,none⟩)) (.int k i))) (.pointer (some ⟨g,o+i.toNat*1,none⟩)):=a8y Tryz.underlying132 Tryz.sizeOf9 k i h0 h1
theorem a6I(s:ByteArray)(k:IntKind)(i:Int)(h0:0≤i)(h1:i < s.size):Pu pG (xV (Instr.index 9 (.string s) (.int k i))) (.int .u8 ((s.get! i.toNat).toNat:Int)):=b0E _ s k i Tryz.underlying9 h0 h1
theorem a7L(k:IntKind)(n:Int):Pu pG (xV (convert 5 3 (.int k n))) (.int .i64 (IntKind.wrap .i64 n)):=Pu.ok fun w=>run_convert_int (P:=pG) (w:=w) 5 3 k n (by rw [Tryz.underlying5];rfl) Tryz.underlying3
theorem b0R(x:c6):Pu pG (xV (Instr.typeAssert (A8 x) 92 118 true)) (.tuple #[(Value.agg #[(Value.string ((((x.a0Q)).T7).f4)),(Value.int .i64 ((((x.a0Q)).T7).L3))]),.bool (x.a3l)]):=by
  cases x<;>exact Pu.ok fun w=>by kernel_rfl
theorem a6x{g o:Nat}:Pu pG (xV (Instr.fieldAt 118 (.pointer (some ⟨g,o,none⟩)) 0)) (.pointer (some ⟨g,o+0,none⟩)):=Pu.ok fun w=>by kernel_rfl
theorem b0S(x:c6):Pu pG (xV (Instr.typeAssert (A8 x) 92 120 true)) (.tuple #[(Value.agg #[(Value.int .i64 ((((x.o5)).d6).b8)),(Value.string ((((x.o5)).d6).f4)),(Value.slice ((((x.o5)).d6).f0).a ((((x.o5)).d6).f0).n ((((x.o5)).d6).f0).c),(Value.slice ((((x.o5)).d6).m7).a ((((x.o5)).d6).m7).n ((((x.o5)).d6).m7).c),(Value.slice ((((x.o5)).d6).D1).a ((((x.o5)).d6).D1).n ((((x.o5)).d6).D1).c),(Value.slice ((((x.o5)).d6).A6).a ((((x.o5)).d6).A6).n ((((x.o5)).d6).A6).c)]),.bool (x.a3m)]):=by
  cases x<;>exact Pu.ok fun w=>by kernel_rfl
theorem G7{g o:Nat}:Pu pG (xV (Instr.fieldAt 120 (.pointer (some ⟨g,o,none⟩)) 0)) (.pointer (some ⟨g,o+0,none⟩)):=Pu.ok fun w=>by kernel_rfl
theorem b2F(x:c6):Pu pG (xV (Instr.typeAssert (A8 x) 92 85 true)) (.tuple #[(Value.agg #[(Value.int .i64 ((((x.B0)).m8).b8)),(Value.int .i64 ((((x.B0)).m8).a0w)),(Value.string ((((x.B0)).m8).f4)),(Value.slice ((((x.B0)).m8).r5).a ((((x.B0)).m8).r5).n ((((x.B0)).m8).r5).c)]),.bool (x.a3k)]):=by
  cases x<;>exact Pu.ok fun w=>by kernel_rfl
theorem Z3{g o:Nat}:Pu pG (xV (Instr.fieldAt 85 (.pointer (some ⟨g,o,none⟩)) 0)) (.pointer (some ⟨g,o+0,none⟩)):=Pu.ok fun w=>by kernel_rfl
theorem a0R(a0:Int)(a1:Int):Pu pG (xV (Instr.build 181 #[(0,(Value.int .i64 a0)),(1,(Value.int .i64 a1))])) (.agg #[(Value.int .i64 a0),(Value.int .i64 a1)]):=Pu.ok fun w=>by kernel_rfl
theorem b6Y(d:Nat)(a0 b0:Int)(a1 b1:Int)(w:World):(Op.equalIn (d+2) 181 (.agg #[(Value.int .i64 a0),(Value.int .i64 a1)]) (.agg #[(Value.int .i64 b0),(Value.int .i64 b1)])).run pG w=.ok (decide (a0=b0∧a1=b1)) w:=by
  have u3:=Tryz.underlying3
  have i3:=Tryz.isAgg3
  have s3:=Tryz.sizeOf3
  have hS:Tryz.prog.underlying 181=some (.struct (Tryz.prog.fieldsOf 181)):=by kernel_rfl
  rw [run_equalIn_agg w (d+1) 181 _ _ hS (by kernel_rfl)]
  simp only [Program.fieldsOf,Tryz.underlying181]
  go_simp
  try simp only [b0F]
  by_cases h0:a0=b0
  · by_cases h1:a1=b1
    · simp [h0,h1]
    · simp [h0,h1]
  · simp [h0]
theorem a3R(x y:Operand)(a0 b0:Int)(a1 b1:Int):Pu pG (xBin .eql 181 x y (.agg #[(Value.int .i64 a0),(Value.int .i64 a1)]) (.agg #[(Value.int .i64 b0),(Value.int .i64 b1)])) (.bool (decide (a0=b0∧a1=b1))):=by
  refine Pu.ok (s:=do eqGuard .eql 181 x y (.agg #[(Value.int .i64 a0),(Value.int .i64 a1)]) (.agg #[(Value.int .i64 b0),(Value.int .i64 b1)]);binOp .eql 181 (.agg #[(Value.int .i64 a0),(Value.int .i64 a1)]) (.agg #[(Value.int .i64 b0),(Value.int .i64 b1)])) fun w=>?_
  rw [Sem.run_bind,run_eqGuard_agg w _ _ _ _ _ _ (by kernel_rfl),Result.andThen_ok,run_eql_struct,show (10000:Nat)=9998+2 from rfl,b6Y]
  rfl
theorem b3t  : Pu pG (xV (Instr.build 181 #[])) (.agg #[(Value.int .i64 0),(Value.int .i64 0)]):=Pu.ok fun w=>by kernel_rfl
theorem b5H(a0a:Option Addr)(a0n a0c:Nat)(a1a:Option Addr)(a1n a1c:Nat)(a2a:Option Addr)(a2n a2c:Nat)(a3a:Option Addr)(a3n a3c:Nat)(w:World):(Instr.buildSlice 115 4 #[(0,(Value.slice a0a a0n a0c)),(1,(Value.slice a1a a1n a1c)),(2,(Value.slice a2a a2n a2c)),(3,(Value.slice a3a a3n a3c))]).run pG w=.ok (.slice (some ⟨w.heap.size,0,none⟩) 4 4) (w.alloc (.cells [(Value.slice a0a a0n a0c),(Value.slice a1a a1n a1c),(Value.slice a2a a2n a2c),(Value.slice a3a a3n a3c)].toArray 86)):=by kernel_rfl
theorem b0T(a4a:Int)(a4b:Int)(a0_2a:Option Addr)(a0_2n a0_2c:Nat)(a0_3a:Option Addr)(a0_3n a0_3c:Nat):Pu pG (xV (Instr.build 185 #[(0,(Value.agg #[(Value.int .i64 a4a),(Value.int .i64 a4b),(Value.slice a0_2a a0_2n a0_2c),(Value.slice a0_3a a0_3n a0_3c)]))])) (.agg #[(Value.int .i64 a4a),(Value.int .i64 a4b),(Value.slice a0_2a a0_2n a0_2c),(Value.slice a0_3a a0_3n a0_3c)]):=Pu.ok fun w=>by kernel_rfl
theorem b0p(x:L5):Pu pG (xV (Instr.makeInterface 185 (.agg #[(Value.int .i64 x.k6.b8),(Value.int .i64 x.k6.fOp),(Value.slice x.k6.f0.a x.k6.f0.n x.k6.f0.c),(Value.slice x.k6.o0.a x.k6.o0.n x.k6.o0.c)]))) (A8 (c6.E5 x)):=Pu.ok fun w=>rfl
theorem Z4{g o:Nat}:Pu pG (xV (Instr.fieldAt 185 (.pointer (some ⟨g,o,none⟩)) 0)) (.pointer (some ⟨g,o+0,none⟩)):=Pu.ok fun w=>by kernel_rfl
theorem a3s(a0:Int)(a1:Int):Pu pG (xV (Instr.build 187 #[(0,(Value.int .i64 a0)),(1,(Value.int .i64 a1))])) (.agg #[(Value.int .i64 a0),(Value.int .i64 a1)]):=Pu.ok fun w=>by kernel_rfl
theorem b6Z(d:Nat)(a0 b0:Int)(a1 b1:Int)(w:World):(Op.equalIn (d+2) 187 (.agg #[(Value.int .i64 a0),(Value.int .i64 a1)]) (.agg #[(Value.int .i64 b0),(Value.int .i64 b1)])).run pG w=.ok (decide (a0=b0∧a1=b1)) w:=by
  have u3:=Tryz.underlying3
  have i3:=Tryz.isAgg3
  have s3:=Tryz.sizeOf3
  have hS:Tryz.prog.underlying 187=some (.struct (Tryz.prog.fieldsOf 187)):=by kernel_rfl
  rw [run_equalIn_agg w (d+1) 187 _ _ hS (by kernel_rfl)]
  simp only [Program.fieldsOf,Tryz.underlying187]
  go_simp
  try simp only [b0F]
  by_cases h0:a0=b0
  · by_cases h1:a1=b1
    · simp [h0,h1]
    · simp [h0,h1]
  · simp [h0]
theorem a6r(x y:Operand)(a0 b0:Int)(a1 b1:Int):Pu pG (xBin .eql 187 x y (.agg #[(Value.int .i64 a0),(Value.int .i64 a1)]) (.agg #[(Value.int .i64 b0),(Value.int .i64 b1)])) (.bool (decide (a0=b0∧a1=b1))):=by
  refine Pu.ok (s:=do eqGuard .eql 187 x y (.agg #[(Value.int .i64 a0),(Value.int .i64 a1)]) (.agg #[(Value.int .i64 b0),(Value.int .i64 b1)]);binOp .eql 187 (.agg #[(Value.int .i64 a0),(Value.int .i64 a1)]) (.agg #[(Value.int .i64 b0),(Value.int .i64 b1)])) fun w=>?_
  rw [Sem.run_bind,run_eqGuard_agg w _ _ _ _ _ _ (by kernel_rfl),Result.andThen_ok,run_eql_struct,show (10000:Nat)=9998+2 from rfl,b6Z]
  rfl
theorem b3u  : Pu pG (xV (Instr.build 187 #[])) (.agg #[(Value.int .i64 0),(Value.int .i64 0)]):=Pu.ok fun w=>by kernel_rfl
abbrev o8(x:l9):List Value:=[(Value.slice x.G1.a x.G1.n x.G1.c),(Value.slice x.Z1.a x.Z1.n x.Z1.c)]
abbrev u7(x:G4):List Value:=[(Value.string x.f4),(Value.int .i64 x.L3)]
abbrev d7(x:i6):List Value:=[(Value.int .i64 x.b8),(Value.string x.f4),(Value.slice x.f0.a x.f0.n x.f0.c),(Value.slice x.m7.a x.m7.n x.m7.c),(Value.slice x.D1.a x.D1.n x.D1.c),(Value.slice x.A6.a x.A6.n x.A6.c)]
abbrev c9(x:f9):List Value:=[(Value.int .i64 x.b8),(Value.int .i64 x.fOp),(Value.slice x.f0.a x.f0.n x.f0.c),(Value.slice x.o0.a x.o0.n x.o0.c)]
abbrev a6J(x:f7):List Value:=[(Value.int .i64 x.fnodes),(Value.int .i64 x.fdepth),(Value.int .i64 x.fe),(Value.bool x.fform),(Value.bool x.fnamed),(Value.slice x.fnames.a x.fnames.n x.fnames.c)]
abbrev g5(x:b7):List Value:=[(Value.int .i64 x.fn),(Value.int .i64 x.fdepth),(Value.int .i64 x.fbad)]
abbrev f8(x:a8):List Value:=[(Value.bool x.fok),(Value.bool x.fnames)]
end Go.Proofs.YtnhdnncbjddmjaaGreatDoor
