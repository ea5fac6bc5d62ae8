/- Single operations at this program's types, and its structures; printed by lift.py. -/
import Derived.KernelRfl
import Derived.Laws.StructEq
import Derived.Laws.Cover2
import Derived.Test.YthaaobpfbgcfiaaGreatDooryWS5
import Derived.Test.YthaaobpfbgcfiaaGreatDooryWGz
namespace Go.Proofs.YthaaobpfbgcfiaaGreatDoor
open Go.RowKit
set_option maxRecDepth 100000
set_option maxHeartbeats 2000000
structure z8 where
  a5g:Sl
  a5J:Sl
structure f7 where
  P0:Int
  a0f:Int
  J8:Int
  K8:Sl
  o9:Sl
  m8:Sl
structure l9 where
  o9:Sl
  t8:Int
  m8:Sl
  o7:Int
  B6:Int
  B5:Sl
structure o3 where
  A8:Int
  s8:Int
structure b7 where
  B3:Int
  fTo:Int
  b8:Int
  D8:Int
  P9:Int
  fOp:Int
  fA:o3
  fB:o3
structure b9 where
  fc:l9
  ffrom:Sl
  fpoint:Int
  fvars:Sl
  farrays:Sl
  fscript:Sl
  fevents:Sl
structure j7 where
  f8:ByteArray
  C1:Int
structure d5 where
  b3x:Bool
  s8:Int
  b5L:Bool
structure p7 where
  fl:Sl
structure g8 where
  fname:ByteArray
  fas:Int
structure B4 where
  b8:Int
  f8:ByteArray
  t7:Sl
  D3:Sl
  S8:Sl
  U7:Sl
structure y9 where
  b8:Int
  fOp:Int
  t7:Sl
  C7:Sl
structure q8 where
  b8:Int
  s8:Int
  f8:ByteArray
  D9:Sl
structure d2C where
  fleft:Int
  fsteps:Int
  fscript:Sl
  fevents:Sl
  fvars:(Option Nat)
  farrays:(Option Nat)
structure f6 where
  fc:l9
  fvars:(Option Nat)
  farrays:(Option Nat)
structure l7 where
  y8:l9
structure p9 where
  fnodes:Int
  fdepth:Int
  fe:Int
  fform:Bool
  fnamed:Bool
  fnames:Sl
structure m5 where
  fdst:Bool
  farr:Bool
  fop:Bool
  fa:Bool
  fb:Bool
structure W3 where
  a0G:j7
structure S9 where
  p6:B4
structure M9 where
  A6:q8
structure T0 where
  z6:y9
structure E2 where
  fexprs:Int
  fconds:Int
structure A0 where
  fexprs:Int
  fparts:Int
abbrev t6(x:f6)(s0:Sl):List Value:=[(vs x.fc.o9),(vi x.fc.t8),(vs x.fc.m8),(vi x.fc.o7),(vi x.fc.B6),(vs s0),(Value.map x.fvars),(Value.map x.farrays)]
abbrev d8(x:f6):f6:=f6.mk (l9.mk x.fc.o9 x.fc.t8 x.fc.m8 x.fc.o7 x.fc.B6 (Sl.mk none 0 0)) x.fvars x.farrays
abbrev m9(x:b9)(s0 s1 s2:Sl):List Value:=[(vs x.fc.o9),(vi x.fc.t8),(vs x.fc.m8),(vi x.fc.o7),(vi x.fc.B6),(vs x.fc.B5),(vs x.ffrom),(vi x.fpoint),(vs s0),(vs s1),(vs x.fscript),(vs s2)]
abbrev o4(x:b9):b9:=b9.mk x.fc x.ffrom x.fpoint (Sl.mk none 0 0) (Sl.mk none 0 0) x.fscript (Sl.mk none 0 0)
abbrev a0L(x:p9)(s0:Sl):List Value:=[(vi x.fnodes),(vi x.fdepth),(vi x.fe),(Value.bool x.fform),(Value.bool x.fnamed),(vs s0)]
abbrev a0g(x:p9):p9:=p9.mk x.fnodes x.fdepth x.fe x.fform x.fnamed (Sl.mk none 0 0)
inductive d9 where
  | nil
  | M5 (x:W3)
  | K6 (x:S9)
  | K1 (x:M9)
  | N1 (x:T0)
def E4:d9→Value
  | .nil=>.nilIface
  | .M5 x=>.iface 188 (.agg #[(Value.string x.a0G.f8),(Value.int .i64 x.a0G.C1)])
  | .K6 x=>.iface 190 (.agg #[(Value.int .i64 x.p6.b8),(Value.string x.p6.f8),(Value.slice x.p6.t7.a x.p6.t7.n x.p6.t7.c),(Value.slice x.p6.D3.a x.p6.D3.n x.p6.D3.c),(Value.slice x.p6.S8.a x.p6.S8.n x.p6.S8.c),(Value.slice x.p6.U7.a x.p6.U7.n x.p6.U7.c)])
  | .K1 x=>.iface 200 (.agg #[(Value.int .i64 x.A6.b8),(Value.int .i64 x.A6.s8),(Value.string x.A6.f8),(Value.slice x.A6.D9.a x.A6.D9.n x.A6.D9.c)])
  | .N1 x=>.iface 233 (.agg #[(Value.int .i64 x.z6.b8),(Value.int .i64 x.z6.fOp),(Value.slice x.z6.t7.a x.z6.t7.n x.z6.t7.c),(Value.slice x.z6.C7.a x.z6.C7.n x.z6.C7.c)])
theorem b7J(x:d9):[E4 x].all (·.oneCell')=true:=by cases x<;>rfl
def d9.a1X:d9→W3
  | .M5 x=>x
  | _=>(W3.mk (j7.mk ⟨#[]⟩ 0))
def d9.a5K:d9→Bool
  | .M5 _=>true
  | _=>false
def d9.A7:d9→S9
  | .K6 x=>x
  | _=>(S9.mk (B4.mk 0 ⟨#[]⟩ (Sl.mk none 0 0) (Sl.mk none 0 0) (Sl.mk none 0 0) (Sl.mk none 0 0)))
def d9.a5L:d9→Bool
  | .K6 _=>true
  | _=>false
def d9.E9:d9→M9
  | .K1 x=>x
  | _=>(M9.mk (q8.mk 0 0 ⟨#[]⟩ (Sl.mk none 0 0)))
def d9.a5M:d9→Bool
  | .K1 _=>true
  | _=>false
abbrev C8(x:ByteArray):List Value:=[(Value.string x)]
theorem a6A(x:ByteArray):(C8 x).length=1:=rfl
theorem a6B(x:ByteArray):(C8 x).all (·.oneCell')=true:=rfl
theorem b6J(a0:ByteArray)(w:World):(Instr.buildSlice 36 1 #[(0,(Value.string a0))]).run pG w=.ok (.slice (some ⟨w.heap.size,0,none⟩) 1 1) (w.alloc (.cells [(Value.string a0)].toArray 9)):=by kernel_rfl
theorem a8X(a0:Int)(a1:Int):Pu pG (xV (Instr.build 47 #[(0,(Value.int .i64 a0)),(1,(Value.int .i64 a1))])) (.agg #[(Value.int .i64 a0),(Value.int .i64 a1)]):=Pu.ok fun w=>by kernel_rfl
theorem a8o(a0:Int):Pu pG (xV (Instr.build 47 #[(0,(Value.int .i64 a0))])) (.agg #[(Value.int .i64 a0),(Value.int .i64 0)]):=Pu.ok fun w=>by kernel_rfl
theorem b3j(a1:Int)(a2:Int)(a4:Int)(b8u:Int)(b8v:Int)(b8w:Int)(b8x:Int):Pu pG (xV (Instr.build 49 #[(1,(Value.int .i64 a1)),(2,(Value.int .i64 a2)),(4,(Value.int .i64 a4)),(6,(Value.agg #[(Value.int .i64 b8u),(Value.int .i64 b8v)])),(7,(Value.agg #[(Value.int .i64 b8w),(Value.int .i64 b8x)]))])) (.agg #[(Value.int .i64 0),(Value.int .i64 a1),(Value.int .i64 a2),(Value.int .i64 0),(Value.int .i64 a4),(Value.int .i64 0),(Value.int .i64 b8u),(Value.int .i64 b8v),(Value.int .i64 b8w),(Value.int .i64 b8x)]):=Pu.ok fun w=>by kernel_rfl
abbrev d7(x:b7):List Value:=[(Value.int .i64 x.B3),(Value.int .i64 x.fTo),(Value.int .i64 x.b8),(Value.int .i64 x.D8),(Value.int .i64 x.P9),(Value.int .i64 x.fOp),(Value.int .i64 x.fA.A8),(Value.int .i64 x.fA.s8),(Value.int .i64 x.fB.A8),(Value.int .i64 x.fB.s8)]
theorem a2A(x:b7):(d7 x).length=10:=rfl
theorem a2B(x:b7):(d7 x).all (·.oneCell')=true:=rfl
theorem b6K(a3s:Int)(a1h:Int)(b3y:Int)(b3z:Int)(b3A:Int)(c9p:Int)(c2H:Int)(c2I:Int)(c2J:Int)(c2K:Int)(w:World):(Instr.buildSlice 37 1 #[(0,(Value.agg #[(Value.int .i64 a3s),(Value.int .i64 a1h),(Value.int .i64 b3y),(Value.int .i64 b3z),(Value.int .i64 b3A),(Value.int .i64 c9p),(Value.int .i64 c2H),(Value.int .i64 c2I),(Value.int .i64 c2J),(Value.int .i64 c2K)]))]).run pG w=.ok (.slice (some ⟨w.heap.size,0,none⟩) 1 1) (w.alloc (.cells [(Value.int .i64 a3s),(Value.int .i64 a1h),(Value.int .i64 b3y),(Value.int .i64 b3z),(Value.int .i64 b3A),(Value.int .i64 c9p),(Value.int .i64 c2H),(Value.int .i64 c2I),(Value.int .i64 c2J),(Value.int .i64 c2K)].toArray 49)):=by kernel_rfl
theorem b4y(a0a:Option Addr)(a0n a0c:Nat)(a3:Int)(a4:Int)(a5a:Option Addr)(a5n a5c:Nat):Pu pG (xV (Instr.build 39 #[(0,(Value.slice a0a a0n a0c)),(3,(Value.int .i64 a3)),(4,(Value.int .i64 a4)),(5,(Value.slice a5a a5n a5c))])) (.agg #[(Value.slice a0a a0n a0c),(Value.int .i64 0),(Value.slice none 0 0),(Value.int .i64 a3),(Value.int .i64 a4),(Value.slice a5a a5n a5c)]):=Pu.ok fun w=>by kernel_rfl
theorem a5N{g o:Nat}:Pu pG (xV (Instr.fieldAt 32 (.pointer (some ⟨g,o,none⟩)) 0)) (.pointer (some ⟨g,o+0,none⟩)):=Pu.ok fun w=>by kernel_rfl
theorem a5O{g o:Nat}:Pu pG (xV (Instr.fieldAt 32 (.pointer (some ⟨g,o,none⟩)) 2)) (.pointer (some ⟨g,o+2,none⟩)):=Pu.ok fun w=>by kernel_rfl
theorem a3T{g o:Nat}:Pu pG (xV (Instr.fieldAt 32 (.pointer (some ⟨g,o,none⟩)) 4)) (.pointer (some ⟨g,o+4,none⟩)):=Pu.ok fun w=>by kernel_rfl
theorem a1T(a:Option Addr)(n c:Nat):Pu pG (xBuiltin .len #[26] 3 [false] [.slice a n c]) (.int .i64 (n:Int)):=O9 Tryz.underlying26 a n c
theorem E3{a:Option Addr}{g o:Nat}(ha:a=some ⟨g,o,none⟩)(len cap:Nat)(k:IntKind)(i:Int)(h0:0≤i)(h1:i < len):Pu pG (xV (Instr.indexAt 26 (.slice a len cap) (.int k i))) (.pointer (some ⟨g,o+i.toNat*1,none⟩)):=Q5 Tryz.underlying26 Tryz.sizeOf2 ha len cap k i h0 h1
theorem b7n  : Pu pG (xV (Instr.build 32 #[])) (.agg #[(Value.int .i64 0),(Value.int .i64 0),(Value.int .i64 0),(Value.slice none 0 0),(Value.slice none 0 0),(Value.slice none 0 0)]):=Pu.ok fun w=>by kernel_rfl
theorem b3B  : Pu pG (xV (Instr.build 39 #[])) (.agg #[(Value.slice none 0 0),(Value.int .i64 0),(Value.slice none 0 0),(Value.int .i64 0),(Value.int .i64 0),(Value.slice none 0 0)]):=Pu.ok fun w=>by kernel_rfl
theorem b5M(a0a:Option Addr)(a0n a0c:Nat)(a2a:Option Addr)(a2n a2c:Nat)(a3:Int):Pu pG (xV (Instr.build 39 #[(0,(Value.slice a0a a0n a0c)),(2,(Value.slice a2a a2n a2c)),(3,(Value.int .i64 a3))])) (.agg #[(Value.slice a0a a0n a0c),(Value.int .i64 0),(Value.slice a2a a2n a2c),(Value.int .i64 a3),(Value.int .i64 0),(Value.slice none 0 0)]):=Pu.ok fun w=>by kernel_rfl
theorem a3U{g o:Nat}:Pu pG (xV (Instr.fieldAt 39 (.pointer (some ⟨g,o,none⟩)) 0)) (.pointer (some ⟨g,o+0,none⟩)):=Pu.ok fun w=>by kernel_rfl
theorem a2F{g o:Nat}:Pu pG (xV (Instr.fieldAt 39 (.pointer (some ⟨g,o,none⟩)) 1)) (.pointer (some ⟨g,o+1,none⟩)):=Pu.ok fun w=>by kernel_rfl
theorem a2G(a:Option Addr)(n c:Nat):Pu pG (xBuiltin .len #[36] 3 [false] [.slice a n c]) (.int .i64 (n:Int)):=O9 Tryz.underlying36 a n c
abbrev i6(x:Int):List Value:=[(Value.int .i64 x)]
theorem b2l(x:Int):(i6 x).length=1:=rfl
theorem b2m(x:Int):(i6 x).all (·.oneCell')=true:=rfl
theorem c1n:Tryz.prog.info? 2=some ((Tryz.prog.info? 2).getD default):=by kernel_rfl
theorem b8y{E:Pan}{w0 w:World}{ps:Nat→Prop}{H0 H:Hp}{Fs:List Frag}{K:Value→World→Prop}{kl kc:IntKind}{n:Int}(I:Inv w0 ps H0 H Fs w)(hn:0≤n)(hb:n*9≤140737488355328)(h:∀(s':Sl)(F':Frag)(w':World),RowL 2 1 i6 s' (List.replicate n.toNat 0) F'→Inv w0 ps H0 H (F'::Fs) w'→(∀k,k < w.heap.size→w'.heap[k]? = w.heap[k]?)→K (.slice s'.a s'.n s'.c) w'):opK pG E (xV (Instr.makeSlice 26 (.int kl n) (.int kc n))) w K:=
  b5I (bytes:=8) (x0:=0) Tryz.underlying26 c1n (z:=(Value.int .i64 0)) (by kernel_rfl) (by kernel_rfl) (by kernel_rfl) (by kernel_rfl) I b2l b2m (by decide) kl kc n hn hb h
theorem a9l(a0_0a:Option Addr)(a0_0n a0_0c:Nat)(a1h:Int)(a0_2a:Option Addr)(a0_2n a0_2c:Nat)(b3z:Int)(b3A:Int)(a0_5a:Option Addr)(a0_5n a0_5c:Nat)(a1a:Option Addr)(a1n a1c:Nat)(a3a:Option Addr)(a3n a3c:Nat)(a5a:Option Addr)(a5n a5c:Nat):Pu pG (xV (Instr.build 78 #[(0,(Value.agg #[(Value.slice a0_0a a0_0n a0_0c),(Value.int .i64 a1h),(Value.slice a0_2a a0_2n a0_2c),(Value.int .i64 b3z),(Value.int .i64 b3A),(Value.slice a0_5a a0_5n a0_5c)])),(1,(Value.slice a1a a1n a1c)),(3,(Value.slice a3a a3n a3c)),(5,(Value.slice a5a a5n a5c))])) (.agg #[(Value.slice a0_0a a0_0n a0_0c),(Value.int .i64 a1h),(Value.slice a0_2a a0_2n a0_2c),(Value.int .i64 b3z),(Value.int .i64 b3A),(Value.slice a0_5a a0_5n a0_5c),(Value.slice a1a a1n a1c),(Value.int .i64 0),(Value.slice a3a a3n a3c),(Value.slice none 0 0),(Value.slice a5a a5n a5c),(Value.slice none 0 0)]):=Pu.ok fun w=>by kernel_rfl
theorem a9x{g o:Nat}:Pu pG (xV (Instr.fieldAt 39 (.pointer (some ⟨g,o,none⟩)) 2)) (.pointer (some ⟨g,o+2,none⟩)):=Pu.ok fun w=>by kernel_rfl
theorem a1U(a:Option Addr)(n c:Nat):Pu pG (xBuiltin .len #[22] 3 [false] [.slice a n c]) (.int .i64 (n:Int)):=O9 Tryz.underlying22 a n c
theorem a2g{a:Option Addr}{g o:Nat}(ha:a=some ⟨g,o,none⟩)(len cap:Nat)(k:IntKind)(i:Int)(h0:0≤i)(h1:i < len):Pu pG (xV (Instr.indexAt 22 (.slice a len cap) (.int k i))) (.pointer (some ⟨g,o+i.toNat*2,none⟩)):=Q5 Tryz.underlying22 Tryz.sizeOf58 ha len cap k i h0 h1
theorem a7l{g o:Nat}:Pu pG (xV (Instr.fieldAt 78 (.pointer (some ⟨g,o,none⟩)) 4)) (.pointer (some ⟨g,o+9,none⟩)):=Pu.ok fun w=>by kernel_rfl
theorem a0X{g o:Nat}:Pu pG (xV (Instr.fieldAt 58 (.pointer (some ⟨g,o,none⟩)) 1)) (.pointer (some ⟨g,o+1,none⟩)):=Pu.ok fun w=>by kernel_rfl
theorem c7k(a0a:Option Addr)(a0n a0c:Nat)(w:World):(Instr.buildSlice 30 1 #[(0,(Value.slice a0a a0n a0c))]).run pG w=.ok (.slice (some ⟨w.heap.size,0,none⟩) 1 1) (w.alloc (.cells [(Value.slice a0a a0n a0c)].toArray 26)):=by kernel_rfl
theorem c9q:Tryz.prog.info? 26=some ((Tryz.prog.info? 26).getD default):=by kernel_rfl
theorem c9r{E:Pan}{w0 w:World}{ps:Nat→Prop}{H0 H:Hp}{Fs:List Frag}{K:Value→World→Prop}{s:Sl}{xs:List Sl}{F:Frag}{t2:Sl}{ys:List Sl}{ks:List Bool}{ty:TypeId}(I:Inv w0 ps H0 H (F::Fs) w)(hr:RowL 26 1 csl s xs F)(hs:SrcO w csl t2 ys)(hb:(xs.length+ys.length)*25≤140737488355328)(h:∀(s':Sl)(F':Frag)(w':World),RowL 26 1 csl s' (xs++ys) F'→Inv w0 ps H0 H (F'::Fs) w'→(∀k,k < w.heap.size→(∀p∈F,p.1≠k)→w'.heap[k]? = w.heap[k]?)→K (.slice s'.a s'.n s'.c) w'):opK pG E (xBuiltin .append #[30,30] ty ks [.slice s.a s.n s.c,.slice t2.a t2.n t2.c]) w K:=
  a8n (bytes:=24) Tryz.underlying30 c9q (z:=(Value.slice none 0 0)) (by kernel_rfl) (by kernel_rfl) (by kernel_rfl) (by kernel_rfl) I hr hs hb h
theorem b9R(a0:Int):Pu pG (xV (Instr.build 32 #[(0,(Value.int .i64 a0))])) (.agg #[(Value.int .i64 a0),(Value.int .i64 0),(Value.int .i64 0),(Value.slice none 0 0),(Value.slice none 0 0),(Value.slice none 0 0)]):=Pu.ok fun w=>by kernel_rfl
theorem a1G:Pu pG (xV (Instr.build 81 #[(1,(Value.func (.func 31) #[] #[])),(2,(Value.func (.func 32) #[] #[])),(3,(Value.func (.func 33) #[] #[])),(4,(Value.func (.func 34) #[] #[])),(5,(Value.func (.func 35) #[] #[])),(6,(Value.func (.func 36) #[] #[])),(7,(Value.func (.func 37) #[] #[])),(8,(Value.func (.func 38) #[] #[])),(9,(Value.func (.func 39) #[] #[])),(10,(Value.func (.func 40) #[] #[])),(11,(Value.func (.func 41) #[] #[])),(12,(Value.func (.func 31) #[] #[])),(13,(Value.func (.func 42) #[] #[])),(14,(Value.func (.func 43) #[] #[]))])) (.agg #[Value.nilFunc,(Value.func (.func 31) #[] #[]),(Value.func (.func 32) #[] #[]),(Value.func (.func 33) #[] #[]),(Value.func (.func 34) #[] #[]),(Value.func (.func 35) #[] #[]),(Value.func (.func 36) #[] #[]),(Value.func (.func 37) #[] #[]),(Value.func (.func 38) #[] #[]),(Value.func (.func 39) #[] #[]),(Value.func (.func 40) #[] #[]),(Value.func (.func 41) #[] #[]),(Value.func (.func 31) #[] #[]),(Value.func (.func 42) #[] #[]),(Value.func (.func 43) #[] #[])]):=Pu.ok fun w=>by kernel_rfl
abbrev m6(x:d5):List Value:=[(Value.bool x.b3x),(Value.int .i64 x.s8),(Value.bool x.b5L)]
theorem Y5(x:d5):(m6 x).length=3:=rfl
theorem Y6(x:d5):(m6 x).all (·.oneCell')=true:=rfl
theorem c1o{g o:Nat}:Pu pG (xV (Instr.fieldAt 78 (.pointer (some ⟨g,o,none⟩)) 1)) (.pointer (some ⟨g,o+6,none⟩)):=Pu.ok fun w=>by kernel_rfl
theorem a9y{g o:Nat}:Pu pG (xV (Instr.fieldAt 78 (.pointer (some ⟨g,o,none⟩)) 2)) (.pointer (some ⟨g,o+7,none⟩)):=Pu.ok fun w=>by kernel_rfl
theorem b5a{a:Option Addr}{g o:Nat}(ha:a=some ⟨g,o,none⟩)(len cap:Nat)(k:IntKind)(i:Int)(h0:0≤i)(h1:i < len):Pu pG (xV (Instr.indexAt 75 (.slice a len cap) (.int k i))) (.pointer (some ⟨g,o+i.toNat*1,none⟩)):=Q5 Tryz.underlying75 Tryz.sizeOf100 ha len cap k i h0 h1
theorem b5N{g o:Nat}:Pu pG (xV (Instr.fieldAt 78 (.pointer (some ⟨g,o,none⟩)) 0)) (.pointer (some ⟨g,o+0,none⟩)):=Pu.ok fun w=>by kernel_rfl
theorem a5P{g o:Nat}:Pu pG (xV (Instr.fieldAt 39 (.pointer (some ⟨g,o,none⟩)) 4)) (.pointer (some ⟨g,o+4,none⟩)):=Pu.ok fun w=>by kernel_rfl
theorem c1p(a:Option Addr)(n c:Nat):Pu pG (xBuiltin .len #[100] 3 [false] [.slice a n c]) (.int .i64 (n:Int)):=O9 Tryz.underlying100 a n c
theorem a1I{g o:Nat}:Pu pG (xV (Instr.fieldAt 39 (.pointer (some ⟨g,o,none⟩)) 5)) (.pointer (some ⟨g,o+5,none⟩)):=Pu.ok fun w=>by kernel_rfl
theorem a8t{a:Option Addr}{g o:Nat}(ha:a=some ⟨g,o,none⟩)(len cap:Nat)(k:IntKind)(i:Int)(h0:0≤i)(h1:i < len):Pu pG (xV (Instr.indexAt 100 (.slice a len cap) (.int k i))) (.pointer (some ⟨g,o+i.toNat*1,none⟩)):=Q5 Tryz.underlying100 Tryz.sizeOf3 ha len cap k i h0 h1
theorem a5h{a:Option Addr}{g o:Nat}(ha:a=some ⟨g,o,none⟩)(len cap:Nat)(k:IntKind)(i:Int)(h0:0≤i)(h1:i < len):Pu pG (xV (Instr.indexAt 37 (.slice a len cap) (.int k i))) (.pointer (some ⟨g,o+i.toNat*10,none⟩)):=Q5 Tryz.underlying37 Tryz.sizeOf49 ha len cap k i h0 h1
theorem a1J{g o:Nat}:Pu pG (xV (Instr.fieldAt 49 (.pointer (some ⟨g,o,none⟩)) 2)) (.pointer (some ⟨g,o+2,none⟩)):=Pu.ok fun w=>by kernel_rfl
theorem a2H{g o:Nat}:Pu pG (xV (Instr.fieldAt 49 (.pointer (some ⟨g,o,none⟩)) 5)) (.pointer (some ⟨g,o+5,none⟩)):=Pu.ok fun w=>by kernel_rfl
theorem M3{g o:Nat}:Pu pG (xV (Instr.fieldAt 49 (.pointer (some ⟨g,o,none⟩)) 6)) (.pointer (some ⟨g,o+6,none⟩)):=Pu.ok fun w=>by kernel_rfl
theorem Q6{g o:Nat}:Pu pG (xV (Instr.fieldAt 49 (.pointer (some ⟨g,o,none⟩)) 7)) (.pointer (some ⟨g,o+8,none⟩)):=Pu.ok fun w=>by kernel_rfl
theorem a5Q{g o:Nat}:Pu pG (xV (Instr.fieldAt 47 (.pointer (some ⟨g,o,none⟩)) 0)) (.pointer (some ⟨g,o+0,none⟩)):=Pu.ok fun w=>by kernel_rfl
theorem b5O{g o:Nat}:Pu pG (xV (Instr.fieldAt 47 (.pointer (some ⟨g,o,none⟩)) 1)) (.pointer (some ⟨g,o+1,none⟩)):=Pu.ok fun w=>by kernel_rfl
theorem a0h{g o:Nat}:Pu pG (xV (Instr.fieldAt 78 (.pointer (some ⟨g,o,none⟩)) 3)) (.pointer (some ⟨g,o+8,none⟩)):=Pu.ok fun w=>by kernel_rfl
theorem a9z{g o:Nat}:Pu pG (xV (Instr.fieldAt 78 (.pointer (some ⟨g,o,none⟩)) 5)) (.pointer (some ⟨g,o+10,none⟩)):=Pu.ok fun w=>by kernel_rfl
theorem a3V{g o:Nat}:Pu pG (xV (Instr.fieldAt 78 (.pointer (some ⟨g,o,none⟩)) 6)) (.pointer (some ⟨g,o+11,none⟩)):=Pu.ok fun w=>by kernel_rfl
theorem a5R{g o:Nat}:Pu pG (xV (Instr.fieldAt 32 (.pointer (some ⟨g,o,none⟩)) 3)) (.pointer (some ⟨g,o+3,none⟩)):=Pu.ok fun w=>by kernel_rfl
theorem a2I{g o:Nat}:Pu pG (xV (Instr.fieldAt 32 (.pointer (some ⟨g,o,none⟩)) 5)) (.pointer (some ⟨g,o+5,none⟩)):=Pu.ok fun w=>by kernel_rfl
theorem c2L{g o:Nat}(k:IntKind)(i:Int)(h0:0≤i)(h1:i < 15):Pu pG (xV (Instr.indexAt 81 (.pointer (some ⟨g,o,none⟩)) (.int k i))) (.pointer (some ⟨g,o+i.toNat*1,none⟩)):=b9P Tryz.underlying81 Tryz.sizeOf80 k i h0 h1
theorem a9A{g o:Nat}:Pu pG (xV (Instr.fieldAt 32 (.pointer (some ⟨g,o,none⟩)) 1)) (.pointer (some ⟨g,o+1,none⟩)):=Pu.ok fun w=>by kernel_rfl
theorem b2n{g o:Nat}:Pu pG (xV (Instr.fieldAt 49 (.pointer (some ⟨g,o,none⟩)) 1)) (.pointer (some ⟨g,o+1,none⟩)):=Pu.ok fun w=>by kernel_rfl
theorem U8{g o:Nat}:Pu pG (xV (Instr.fieldAt 49 (.pointer (some ⟨g,o,none⟩)) 3)) (.pointer (some ⟨g,o+3,none⟩)):=Pu.ok fun w=>by kernel_rfl
theorem b3h(a0:Bool)(a1:Int):Pu pG (xV (Instr.build 87 #[(0,(Value.bool a0)),(1,(Value.int .i64 a1))])) (.agg #[(Value.bool a0),(Value.int .i64 a1),(Value.bool false)]):=Pu.ok fun w=>by kernel_rfl
theorem b1C(a3s:Bool)(a1h:Int)(b3y:Bool)(w:World):(Instr.buildSlice 29 1 #[(0,(Value.agg #[(Value.bool a3s),(Value.int .i64 a1h),(Value.bool b3y)]))]).run pG w=.ok (.slice (some ⟨w.heap.size,0,none⟩) 1 1) (w.alloc (.cells [(Value.bool a3s),(Value.int .i64 a1h),(Value.bool b3y)].toArray 87)):=by kernel_rfl
theorem c9s:Tryz.prog.info? 87=some ((Tryz.prog.info? 87).getD default):=by kernel_rfl
theorem b3C{E:Pan}{w0 w:World}{ps:Nat→Prop}{H0 H:Hp}{Fs:List Frag}{K:Value→World→Prop}{s:Sl}{xs:List d5}{F:Frag}{t2:Sl}{ys:List d5}{ks:List Bool}{ty:TypeId}(I:Inv w0 ps H0 H (F::Fs) w)(hr:RowL 87 3 m6 s xs F)(hs:SrcO w m6 t2 ys)(hb:(xs.length+ys.length)*25≤140737488355328)(h:∀(s':Sl)(F':Frag)(w':World),RowL 87 3 m6 s' (xs++ys) F'→Inv w0 ps H0 H (F'::Fs) w'→(∀k,k < w.heap.size→(∀p∈F,p.1≠k)→w'.heap[k]? = w.heap[k]?)→K (.slice s'.a s'.n s'.c) w'):opK pG E (xBuiltin .append #[29,29] ty ks [.slice s.a s.n s.c,.slice t2.a t2.n t2.c]) w K:=
  a8n (bytes:=24) Tryz.underlying29 c9s (z:=(Value.agg #[(Value.bool false),(Value.int .i64 0),(Value.bool false)])) (by kernel_rfl) (by kernel_rfl) (by kernel_rfl) (by kernel_rfl) I hr hs hb h
theorem a5S{g o:Nat}:Pu pG (xV (Instr.fieldAt 49 (.pointer (some ⟨g,o,none⟩)) 4)) (.pointer (some ⟨g,o+4,none⟩)):=Pu.ok fun w=>by kernel_rfl
theorem b2o{a:Option Addr}{g o:Nat}(ha:a=some ⟨g,o,none⟩)(len cap:Nat)(k:IntKind)(i:Int)(h0:0≤i)(h1:i < len):Pu pG (xV (Instr.indexAt 30 (.slice a len cap) (.int k i))) (.pointer (some ⟨g,o+i.toNat*1,none⟩)):=Q5 Tryz.underlying30 Tryz.sizeOf26 ha len cap k i h0 h1
theorem b5P(x y:Operand):Pu pG (xBin .eql 59 x y (.pointer none) (.pointer none)) (.bool true):=b8i _ _ _ none Tryz.underlying59
theorem b5Q(x y:Operand)(a:Addr):Pu pG (xBin .eql 59 x y (.pointer (some a)) (.pointer none)) (.bool false):=b8i _ _ _ (some a) Tryz.underlying59
theorem b9S(a2:Bool):Pu pG (xV (Instr.build 87 #[(2,(Value.bool a2))])) (.agg #[(Value.bool false),(Value.int .i64 0),(Value.bool a2)]):=Pu.ok fun w=>by kernel_rfl
theorem c2M  : Pu pG (xV (Instr.build 87 #[])) (.agg #[(Value.bool false),(Value.int .i64 0),(Value.bool false)]):=Pu.ok fun w=>by kernel_rfl
theorem b3D(a:Option Addr)(n c:Nat):Pu pG (xBuiltin .len #[29] 3 [false] [.slice a n c]) (.int .i64 (n:Int)):=O9 Tryz.underlying29 a n c
theorem b3E(a:Option Addr)(n c:Nat):Pu pG (xBuiltin .len #[30] 3 [false] [.slice a n c]) (.int .i64 (n:Int)):=O9 Tryz.underlying30 a n c
theorem b8z{a:Option Addr}{g o:Nat}(ha:a=some ⟨g,o,none⟩)(len cap:Nat)(k:IntKind)(i:Int)(h0:0≤i)(h1:i < len):Pu pG (xV (Instr.indexAt 29 (.slice a len cap) (.int k i))) (.pointer (some ⟨g,o+i.toNat*3,none⟩)):=Q5 Tryz.underlying29 Tryz.sizeOf87 ha len cap k i h0 h1
theorem c9t(d:Nat)(a0 b0:Bool)(a1 b1:Int)(a2 b2:Bool)(w:World):(Op.equalIn (d+2) 87 (.agg #[(Value.bool a0),(Value.int .i64 a1),(Value.bool a2)]) (.agg #[(Value.bool b0),(Value.int .i64 b1),(Value.bool b2)])).run pG w=.ok (decide (a0=b0∧a1=b1∧a2=b2)) w:=by
  have u4:=Tryz.underlying4
  have i4:=Tryz.isAgg4
  have s4:=Tryz.sizeOf4
  have u2:=Tryz.underlying2
  have i2:=Tryz.isAgg2
  have s2:=Tryz.sizeOf2
  have hS:Tryz.prog.underlying 87=some (.struct (Tryz.prog.fieldsOf 87)):=by kernel_rfl
  rw [run_equalIn_agg w (d+1) 87 _ _ hS (by kernel_rfl)]
  simp only [Program.fieldsOf,Tryz.underlying87]
  go_simp
  try simp only [b2h]
  by_cases h0:a0=b0
  · by_cases h1:a1=b1
    · by_cases h2:a2=b2
      · simp [h0,h1,h2]
      · simp [h0,h1,h2]
    · simp [h0,h1]
  · simp [h0]
theorem c4I(x y:Operand)(a0 b0:Bool)(a1 b1:Int)(a2 b2:Bool):Pu pG (xBin .neq 87 x y (.agg #[(Value.bool a0),(Value.int .i64 a1),(Value.bool a2)]) (.agg #[(Value.bool b0),(Value.int .i64 b1),(Value.bool b2)])) (.bool (!decide (a0=b0∧a1=b1∧a2=b2))):=by
  refine Pu.ok (s:=do eqGuard .neq 87 x y (.agg #[(Value.bool a0),(Value.int .i64 a1),(Value.bool a2)]) (.agg #[(Value.bool b0),(Value.int .i64 b1),(Value.bool b2)]);binOp .neq 87 (.agg #[(Value.bool a0),(Value.int .i64 a1),(Value.bool a2)]) (.agg #[(Value.bool b0),(Value.int .i64 b1),(Value.bool b2)])) fun w=>?_
  rw [Sem.run_bind,run_eqGuard_agg w _ _ _ _ _ _ (by kernel_rfl),Result.andThen_ok,run_neq_struct,show (10000:Nat)=9998+2 from rfl,c9t]
  rfl
theorem a7m{g o:Nat}:Pu pG (xV (Instr.fieldAt 25 (.pointer (some ⟨g,o,none⟩)) 0)) (.pointer (some ⟨g,o+0,none⟩)):=Pu.ok fun w=>by kernel_rfl
theorem c2N  : Pu pG (xV (Instr.build 94 #[])) (.agg #[(Value.slice none 0 0)]):=Pu.ok fun w=>by kernel_rfl
theorem a7n{g o:Nat}:Pu pG (xV (Instr.fieldAt 25 (.pointer (some ⟨g,o,none⟩)) 1)) (.pointer (some ⟨g,o+1,none⟩)):=Pu.ok fun w=>by kernel_rfl
abbrev C2(x:g8):List Value:=[(Value.string x.fname),(Value.int .i64 x.fas)]
theorem a4o(x:g8):(C2 x).length=2:=rfl
theorem a4p(x:g8):(C2 x).all (·.oneCell')=true:=rfl
theorem a1i(a:Option Addr)(n c:Nat):Pu pG (xBuiltin .len #[23] 3 [false] [.slice a n c]) (.int .i64 (n:Int)):=O9 Tryz.underlying23 a n c
theorem b2p{a:Option Addr}{g o:Nat}(ha:a=some ⟨g,o,none⟩)(len cap:Nat)(k:IntKind)(i:Int)(h0:0≤i)(h1:i < len):Pu pG (xV (Instr.indexAt 23 (.slice a len cap) (.int k i))) (.pointer (some ⟨g,o+i.toNat*6,none⟩)):=Q5 Tryz.underlying23 Tryz.sizeOf104 ha len cap k i h0 h1
theorem a4C{g o:Nat}:Pu pG (xV (Instr.fieldAt 104 (.pointer (some ⟨g,o,none⟩)) 0)) (.pointer (some ⟨g,o+0,none⟩)):=Pu.ok fun w=>by kernel_rfl
theorem a1K{g o:Nat}:Pu pG (xV (Instr.fieldAt 94 (.pointer (some ⟨g,o,none⟩)) 0)) (.pointer (some ⟨g,o+0,none⟩)):=Pu.ok fun w=>by kernel_rfl
theorem a0d{g o:Nat}:Pu pG (xV (Instr.fieldAt 104 (.pointer (some ⟨g,o,none⟩)) 1)) (.pointer (some ⟨g,o+1,none⟩)):=Pu.ok fun w=>by kernel_rfl
theorem a6K(a0:ByteArray)(a1:Int):Pu pG (xV (Instr.build 97 #[(0,(Value.string a0)),(1,(Value.int .i64 a1))])) (.agg #[(Value.string a0),(Value.int .i64 a1)]):=Pu.ok fun w=>by kernel_rfl
theorem b4g(a3s:ByteArray)(a1h:Int)(w:World):(Instr.buildSlice 92 1 #[(0,(Value.agg #[(Value.string a3s),(Value.int .i64 a1h)]))]).run pG w=.ok (.slice (some ⟨w.heap.size,0,none⟩) 1 1) (w.alloc (.cells [(Value.string a3s),(Value.int .i64 a1h)].toArray 97)):=by kernel_rfl
theorem c9u:Tryz.prog.info? 97=some ((Tryz.prog.info? 97).getD default):=by kernel_rfl
theorem b5R{E:Pan}{w0 w:World}{ps:Nat→Prop}{H0 H:Hp}{Fs:List Frag}{K:Value→World→Prop}{s:Sl}{xs:List g8}{F:Frag}{t2:Sl}{ys:List g8}{ks:List Bool}{ty:TypeId}(I:Inv w0 ps H0 H (F::Fs) w)(hr:RowL 97 2 C2 s xs F)(hs:SrcO w C2 t2 ys)(hb:(xs.length+ys.length)*25≤140737488355328)(h:∀(s':Sl)(F':Frag)(w':World),RowL 97 2 C2 s' (xs++ys) F'→Inv w0 ps H0 H (F'::Fs) w'→(∀k,k < w.heap.size→(∀p∈F,p.1≠k)→w'.heap[k]? = w.heap[k]?)→K (.slice s'.a s'.n s'.c) w'):opK pG E (xBuiltin .append #[92,92] ty ks [.slice s.a s.n s.c,.slice t2.a t2.n t2.c]) w K:=
  a8n (bytes:=24) Tryz.underlying92 c9u (z:=(Value.agg #[(Value.string ⟨#[]⟩),(Value.int .i64 0)])) (by kernel_rfl) (by kernel_rfl) (by kernel_rfl) (by kernel_rfl) I hr hs hb h
theorem a1V{g o:Nat}:Pu pG (xV (Instr.fieldAt 104 (.pointer (some ⟨g,o,none⟩)) 3)) (.pointer (some ⟨g,o+3,none⟩)):=Pu.ok fun w=>by kernel_rfl
theorem a7o(a:Option Addr)(n c:Nat):Pu pG (xBuiltin .len #[102] 3 [false] [.slice a n c]) (.int .i64 (n:Int)):=O9 Tryz.underlying102 a n c
theorem O6{a:Option Addr}{g o:Nat}(ha:a=some ⟨g,o,none⟩)(len cap:Nat)(k:IntKind)(i:Int)(h0:0≤i)(h1:i < len):Pu pG (xV (Instr.indexAt 102 (.slice a len cap) (.int k i))) (.pointer (some ⟨g,o+i.toNat*4,none⟩)):=Q5 Tryz.underlying102 Tryz.sizeOf122 ha len cap k i h0 h1
theorem a4D{g o:Nat}:Pu pG (xV (Instr.fieldAt 122 (.pointer (some ⟨g,o,none⟩)) 2)) (.pointer (some ⟨g,o+2,none⟩)):=Pu.ok fun w=>by kernel_rfl
theorem a1L(a:Option Addr)(n c:Nat):Pu pG (xBuiltin .len #[101] 3 [false] [.slice a n c]) (.int .i64 (n:Int)):=O9 Tryz.underlying101 a n c
theorem Q0{a:Option Addr}{g o:Nat}(ha:a=some ⟨g,o,none⟩)(len cap:Nat)(k:IntKind)(i:Int)(h0:0≤i)(h1:i < len):Pu pG (xV (Instr.indexAt 101 (.slice a len cap) (.int k i))) (.pointer (some ⟨g,o+i.toNat*4,none⟩)):=Q5 Tryz.underlying101 Tryz.sizeOf125 ha len cap k i h0 h1
theorem M6{g o:Nat}:Pu pG (xV (Instr.fieldAt 125 (.pointer (some ⟨g,o,none⟩)) 0)) (.pointer (some ⟨g,o+0,none⟩)):=Pu.ok fun w=>by kernel_rfl
theorem a1W{g o:Nat}:Pu pG (xV (Instr.fieldAt 125 (.pointer (some ⟨g,o,none⟩)) 2)) (.pointer (some ⟨g,o+2,none⟩)):=Pu.ok fun w=>by kernel_rfl
theorem W0{g o:Nat}:Pu pG (xV (Instr.fieldAt 125 (.pointer (some ⟨g,o,none⟩)) 3)) (.pointer (some ⟨g,o+3,none⟩)):=Pu.ok fun w=>by kernel_rfl
theorem R9{g o:Nat}:Pu pG (xV (Instr.fieldAt 122 (.pointer (some ⟨g,o,none⟩)) 3)) (.pointer (some ⟨g,o+3,none⟩)):=Pu.ok fun w=>by kernel_rfl
theorem a2Q{g o:Nat}:Pu pG (xV (Instr.fieldAt 104 (.pointer (some ⟨g,o,none⟩)) 2)) (.pointer (some ⟨g,o+2,none⟩)):=Pu.ok fun w=>by kernel_rfl
theorem a0Y{g o:Nat}:Pu pG (xV (Instr.fieldAt 104 (.pointer (some ⟨g,o,none⟩)) 4)) (.pointer (some ⟨g,o+4,none⟩)):=Pu.ok fun w=>by kernel_rfl
theorem a2R{g o:Nat}:Pu pG (xV (Instr.fieldAt 104 (.pointer (some ⟨g,o,none⟩)) 5)) (.pointer (some ⟨g,o+5,none⟩)):=Pu.ok fun w=>by kernel_rfl
theorem c4J{a:Option Addr}{g o:Nat}(ha:a=some ⟨g,o,none⟩)(len cap:Nat)(k:IntKind)(i:Int)(h0:0≤i)(h1:i < len):Pu pG (xV (Instr.indexAt 92 (.slice a len cap) (.int k i))) (.pointer (some ⟨g,o+i.toNat*2,none⟩)):=Q5 Tryz.underlying92 Tryz.sizeOf97 ha len cap k i h0 h1
theorem b2q{g o:Nat}:Pu pG (xV (Instr.fieldAt 97 (.pointer (some ⟨g,o,none⟩)) 0)) (.pointer (some ⟨g,o+0,none⟩)):=Pu.ok fun w=>by kernel_rfl
theorem c1q{g o:Nat}:Pu pG (xV (Instr.fieldAt 97 (.pointer (some ⟨g,o,none⟩)) 1)) (.pointer (some ⟨g,o+1,none⟩)):=Pu.ok fun w=>by kernel_rfl
theorem W4{g o:Nat}:Pu pG (xV (Instr.fieldAt 58 (.pointer (some ⟨g,o,none⟩)) 0)) (.pointer (some ⟨g,o+0,none⟩)):=Pu.ok fun w=>by kernel_rfl
theorem d2G:Tryz.prog.info? 9=some ((Tryz.prog.info? 9).getD default):=by kernel_rfl
theorem c2O{E:Pan}{w0 w:World}{ps:Nat→Prop}{H0 H:Hp}{Fs:List Frag}{K:Value→World→Prop}{s:Sl}{xs:List ByteArray}{F:Frag}{t2:Sl}{ys:List ByteArray}{ks:List Bool}{ty:TypeId}(I:Inv w0 ps H0 H (F::Fs) w)(hr:RowL 9 1 C8 s xs F)(hs:SrcO w C8 t2 ys)(hb:(xs.length+ys.length)*17≤140737488355328)(h:∀(s':Sl)(F':Frag)(w':World),RowL 9 1 C8 s' (xs++ys) F'→Inv w0 ps H0 H (F'::Fs) w'→(∀k,k < w.heap.size→(∀p∈F,p.1≠k)→w'.heap[k]? = w.heap[k]?)→K (.slice s'.a s'.n s'.c) w'):opK pG E (xBuiltin .append #[36,36] ty ks [.slice s.a s.n s.c,.slice t2.a t2.n t2.c]) w K:=
  a8n (bytes:=16) Tryz.underlying36 d2G (z:=(Value.string ⟨#[]⟩)) (by kernel_rfl) (by kernel_rfl) (by kernel_rfl) (by kernel_rfl) I hr hs hb h
theorem O7{g o:Nat}:Pu pG (xV (Instr.fieldAt 70 (.pointer (some ⟨g,o,none⟩)) 0)) (.pointer (some ⟨g,o+0,none⟩)):=Pu.ok fun w=>by kernel_rfl
theorem a0Z{g o:Nat}:Pu pG (xV (Instr.fieldAt 39 (.pointer (some ⟨g,o,none⟩)) 3)) (.pointer (some ⟨g,o+3,none⟩)):=Pu.ok fun w=>by kernel_rfl
abbrev a1j(x:Int):List Value:=[(Value.int .i64 x)]
theorem b0g(x:Int):(a1j x).length=1:=rfl
theorem b0h(x:Int):(a1j x).all (·.oneCell')=true:=rfl
theorem b2r(a0:Int)(w:World):(Instr.buildSlice 100 1 #[(0,(Value.int .i64 a0))]).run pG w=.ok (.slice (some ⟨w.heap.size,0,none⟩) 1 1) (w.alloc (.cells [(Value.int .i64 a0)].toArray 3)):=by kernel_rfl
theorem d2H:Tryz.prog.info? 3=some ((Tryz.prog.info? 3).getD default):=by kernel_rfl
theorem b6L{E:Pan}{w0 w:World}{ps:Nat→Prop}{H0 H:Hp}{Fs:List Frag}{K:Value→World→Prop}{s:Sl}{xs:List Int}{F:Frag}{t2:Sl}{ys:List Int}{ks:List Bool}{ty:TypeId}(I:Inv w0 ps H0 H (F::Fs) w)(hr:RowL 3 1 a1j s xs F)(hs:SrcO w a1j t2 ys)(hb:(xs.length+ys.length)*9≤140737488355328)(h:∀(s':Sl)(F':Frag)(w':World),RowL 3 1 a1j s' (xs++ys) F'→Inv w0 ps H0 H (F'::Fs) w'→(∀k,k < w.heap.size→(∀p∈F,p.1≠k)→w'.heap[k]? = w.heap[k]?)→K (.slice s'.a s'.n s'.c) w'):opK pG E (xBuiltin .append #[100,100] ty ks [.slice s.a s.n s.c,.slice t2.a t2.n t2.c]) w K:=
  a8n (bytes:=8) Tryz.underlying100 d2H (z:=(Value.int .i64 0)) (by kernel_rfl) (by kernel_rfl) (by kernel_rfl) (by kernel_rfl) I hr hs hb h
theorem b2s{g o:Nat}:Pu pG (xV (Instr.fieldAt 70 (.pointer (some ⟨g,o,none⟩)) 1)) (.pointer (some ⟨g,o+6,none⟩)):=Pu.ok fun w=>by kernel_rfl
theorem a4E{g o:Nat}:Pu pG (xV (Instr.fieldAt 125 (.pointer (some ⟨g,o,none⟩)) 1)) (.pointer (some ⟨g,o+1,none⟩)):=Pu.ok fun w=>by kernel_rfl
theorem a1M{g o:Nat}:Pu pG (xV (Instr.fieldAt 49 (.pointer (some ⟨g,o,none⟩)) 0)) (.pointer (some ⟨g,o+0,none⟩)):=Pu.ok fun w=>by kernel_rfl
theorem b2t{g o:Nat}:Pu pG (xV (Instr.fieldAt 70 (.pointer (some ⟨g,o,none⟩)) 2)) (.pointer (some ⟨g,o+7,none⟩)):=Pu.ok fun w=>by kernel_rfl
theorem c9v:Tryz.prog.info? 49=some ((Tryz.prog.info? 49).getD default):=by kernel_rfl
theorem c2P{E:Pan}{w0 w:World}{ps:Nat→Prop}{H0 H:Hp}{Fs:List Frag}{K:Value→World→Prop}{s:Sl}{xs:List b7}{F:Frag}{t2:Sl}{ys:List b7}{ks:List Bool}{ty:TypeId}(I:Inv w0 ps H0 H (F::Fs) w)(hr:RowL 49 10 d7 s xs F)(hs:SrcO w d7 t2 ys)(hb:(xs.length+ys.length)*81≤140737488355328)(h:∀(s':Sl)(F':Frag)(w':World),RowL 49 10 d7 s' (xs++ys) F'→Inv w0 ps H0 H (F'::Fs) w'→(∀k,k < w.heap.size→(∀p∈F,p.1≠k)→w'.heap[k]? = w.heap[k]?)→K (.slice s'.a s'.n s'.c) w'):opK pG E (xBuiltin .append #[37,37] ty ks [.slice s.a s.n s.c,.slice t2.a t2.n t2.c]) w K:=
  a8n (bytes:=80) Tryz.underlying37 c9v (z:=(Value.agg #[(Value.int .i64 0),(Value.int .i64 0),(Value.int .i64 0),(Value.int .i64 0),(Value.int .i64 0),(Value.int .i64 0),(Value.int .i64 0),(Value.int .i64 0),(Value.int .i64 0),(Value.int .i64 0)])) (by kernel_rfl) (by kernel_rfl) (by kernel_rfl) (by kernel_rfl) I hr hs hb h
theorem a6C{g o:Nat}:Pu pG (xV (Instr.fieldAt 122 (.pointer (some ⟨g,o,none⟩)) 0)) (.pointer (some ⟨g,o+0,none⟩)):=Pu.ok fun w=>by kernel_rfl
theorem a4F{g o:Nat}:Pu pG (xV (Instr.fieldAt 122 (.pointer (some ⟨g,o,none⟩)) 1)) (.pointer (some ⟨g,o+1,none⟩)):=Pu.ok fun w=>by kernel_rfl
theorem b1d(a:Option Addr)(n c:Nat):Pu pG (xBuiltin .len #[37] 3 [false] [.slice a n c]) (.int .i64 (n:Int)):=O9 Tryz.underlying37 a n c
theorem b8A(a0_0a:Option Addr)(a0_0n a0_0c:Nat)(a1h:Int)(a0_2a:Option Addr)(a0_2n a0_2c:Nat)(b3z:Int)(b3A:Int)(a0_5a:Option Addr)(a0_5n a0_5c:Nat):Pu pG (xV (Instr.build 107 #[(0,(Value.agg #[(Value.slice a0_0a a0_0n a0_0c),(Value.int .i64 a1h),(Value.slice a0_2a a0_2n a0_2c),(Value.int .i64 b3z),(Value.int .i64 b3A),(Value.slice a0_5a a0_5n a0_5c)]))])) (.agg #[(Value.slice a0_0a a0_0n a0_0c),(Value.int .i64 a1h),(Value.slice a0_2a a0_2n a0_2c),(Value.int .i64 b3z),(Value.int .i64 b3A),(Value.slice a0_5a a0_5n a0_5c)]):=Pu.ok fun w=>by kernel_rfl
theorem c9w:Tryz.prog.info? 37=some ((Tryz.prog.info? 37).getD default):=by kernel_rfl
theorem c7l{E:Pan}{w0 w:World}{ps:Nat→Prop}{H0 H:Hp}{Fs:List Frag}{K:Value→World→Prop}{kl kc:IntKind}{n:Int}(I:Inv w0 ps H0 H Fs w)(hn:0≤n)(hb:n*25≤140737488355328)(h:∀(s':Sl)(F':Frag)(w':World),RowL 37 1 csl s' (List.replicate n.toNat (Sl.mk none 0 0)) F'→Inv w0 ps H0 H (F'::Fs) w'→(∀k,k < w.heap.size→w'.heap[k]? = w.heap[k]?)→K (.slice s'.a s'.n s'.c) w'):opK pG E (xV (Instr.makeSlice 109 (.int kl n) (.int kc n))) w K:=
  b5I (bytes:=24) (x0:=(Sl.mk none 0 0)) Tryz.underlying109 c9w (z:=(Value.slice none 0 0)) (by kernel_rfl) (by kernel_rfl) (by kernel_rfl) (by kernel_rfl) I a9u a9v (by decide) kl kc n hn hb h
theorem b3F{a:Option Addr}{g o:Nat}(ha:a=some ⟨g,o,none⟩)(len cap:Nat)(k:IntKind)(i:Int)(h0:0≤i)(h1:i < len):Pu pG (xV (Instr.indexAt 109 (.slice a len cap) (.int k i))) (.pointer (some ⟨g,o+i.toNat*1,none⟩)):=Q5 Tryz.underlying109 Tryz.sizeOf37 ha len cap k i h0 h1
theorem c7m:Tryz.prog.info? 100=some ((Tryz.prog.info? 100).getD default):=by kernel_rfl
theorem c9x{E:Pan}{w0 w:World}{ps:Nat→Prop}{H0 H:Hp}{Fs:List Frag}{K:Value→World→Prop}{kl kc:IntKind}{n:Int}(I:Inv w0 ps H0 H Fs w)(hn:0≤n)(hb:n*25≤140737488355328)(h:∀(s':Sl)(F':Frag)(w':World),RowL 100 1 csl s' (List.replicate n.toNat (Sl.mk none 0 0)) F'→Inv w0 ps H0 H (F'::Fs) w'→(∀k,k < w.heap.size→w'.heap[k]? = w.heap[k]?)→K (.slice s'.a s'.n s'.c) w'):opK pG E (xV (Instr.makeSlice 75 (.int kl n) (.int kc n))) w K:=
  b5I (bytes:=24) (x0:=(Sl.mk none 0 0)) Tryz.underlying75 c7m (z:=(Value.slice none 0 0)) (by kernel_rfl) (by kernel_rfl) (by kernel_rfl) (by kernel_rfl) I a9u a9v (by decide) kl kc n hn hb h
theorem a6D{g o:Nat}:Pu pG (xV (Instr.fieldAt 116 (.pointer (some ⟨g,o,none⟩)) 2)) (.pointer (some ⟨g,o+2,none⟩)):=Pu.ok fun w=>by kernel_rfl
theorem a9B{g o:Nat}:Pu pG (xV (Instr.fieldAt 56 (.pointer (some ⟨g,o,none⟩)) 4)) (.pointer (some ⟨g,o+4,none⟩)):=Pu.ok fun w=>by kernel_rfl
theorem b2u{g o:Nat}:Pu pG (xV (Instr.fieldAt 56 (.pointer (some ⟨g,o,none⟩)) 0)) (.pointer (some ⟨g,o+0,none⟩)):=Pu.ok fun w=>by kernel_rfl
theorem b7K(a0:Int)(a1:Int):Pu pG (xV (Instr.build 61 #[(0,(Value.int .i64 a0)),(1,(Value.int .i64 a1))])) (.agg #[(Value.int .i64 a0),(Value.int .i64 a1)]):=Pu.ok fun w=>by kernel_rfl
theorem b2v{g o:Nat}:Pu pG (xV (Instr.fieldAt 56 (.pointer (some ⟨g,o,none⟩)) 1)) (.pointer (some ⟨g,o+1,none⟩)):=Pu.ok fun w=>by kernel_rfl
theorem a6E{g o:Nat}:Pu pG (xV (Instr.fieldAt 107 (.pointer (some ⟨g,o,none⟩)) 0)) (.pointer (some ⟨g,o+0,none⟩)):=Pu.ok fun w=>by kernel_rfl
theorem a8p{g o:Nat}:Pu pG (xV (Instr.fieldAt 139 (.pointer (some ⟨g,o,none⟩)) 0)) (.pointer (some ⟨g,o+0,none⟩)):=Pu.ok fun w=>by kernel_rfl
theorem b1n{g o:Nat}:Pu pG (xV (Instr.fieldAt 139 (.pointer (some ⟨g,o,none⟩)) 1)) (.pointer (some ⟨g,o+1,none⟩)):=Pu.ok fun w=>by kernel_rfl
theorem b4L{g o:Nat}:Pu pG (xV (Instr.fieldAt 139 (.pointer (some ⟨g,o,none⟩)) 2)) (.pointer (some ⟨g,o+2,none⟩)):=Pu.ok fun w=>by kernel_rfl
theorem b9T{g o:Nat}:Pu pG (xV (Instr.fieldAt 139 (.pointer (some ⟨g,o,none⟩)) 3)) (.pointer (some ⟨g,o+3,none⟩)):=Pu.ok fun w=>by kernel_rfl
theorem c9y(d:Nat)(a0 b0:Int)(a1 b1:Int)(w:World):(Op.equalIn (d+2) 47 (.agg #[(Value.int .i64 a0),(Value.int .i64 a1)]) (.agg #[(Value.int .i64 b0),(Value.int .i64 b1)])).run pG w=.ok (decide (a0=b0∧a1=b1)) w:=by
  have u3:=Tryz.underlying3
  have i3:=Tryz.isAgg3
  have s3:=Tryz.sizeOf3
  have u2:=Tryz.underlying2
  have i2:=Tryz.isAgg2
  have s2:=Tryz.sizeOf2
  have hS:Tryz.prog.underlying 47=some (.struct (Tryz.prog.fieldsOf 47)):=by kernel_rfl
  rw [run_equalIn_agg w (d+1) 47 _ _ hS (by kernel_rfl)]
  simp only [Program.fieldsOf,Tryz.underlying47]
  go_simp
  try simp only [b2h]
  by_cases h0:a0=b0
  · by_cases h1:a1=b1
    · simp [h0,h1]
    · simp [h0,h1]
  · simp [h0]
theorem b2w(x y:Operand)(a0 b0:Int)(a1 b1:Int):Pu pG (xBin .eql 47 x y (.agg #[(Value.int .i64 a0),(Value.int .i64 a1)]) (.agg #[(Value.int .i64 b0),(Value.int .i64 b1)])) (.bool (decide (a0=b0∧a1=b1))):=by
  refine Pu.ok (s:=do eqGuard .eql 47 x y (.agg #[(Value.int .i64 a0),(Value.int .i64 a1)]) (.agg #[(Value.int .i64 b0),(Value.int .i64 b1)]);binOp .eql 47 (.agg #[(Value.int .i64 a0),(Value.int .i64 a1)]) (.agg #[(Value.int .i64 b0),(Value.int .i64 b1)])) fun w=>?_
  rw [Sem.run_bind,run_eqGuard_agg w _ _ _ _ _ _ (by kernel_rfl),Result.andThen_ok,run_eql_struct,show (10000:Nat)=9998+2 from rfl,c9y]
  rfl
theorem a8q{g o:Nat}:Pu pG (xV (Instr.fieldAt 139 (.pointer (some ⟨g,o,none⟩)) 4)) (.pointer (some ⟨g,o+4,none⟩)):=Pu.ok fun w=>by kernel_rfl
theorem a5i:Pu pG (xV (Instr.build 151 #[(0,(Value.func (.func 98) #[] #[])),(1,(Value.func (.func 99) #[] #[])),(2,(Value.func (.func 100) #[] #[])),(3,(Value.func (.func 101) #[] #[])),(4,(Value.func (.func 102) #[] #[])),(5,(Value.func (.func 103) #[] #[])),(6,(Value.func (.func 104) #[] #[]))])) (.agg #[(Value.func (.func 98) #[] #[]),(Value.func (.func 99) #[] #[]),(Value.func (.func 100) #[] #[]),(Value.func (.func 101) #[] #[]),(Value.func (.func 102) #[] #[]),(Value.func (.func 103) #[] #[]),(Value.func (.func 104) #[] #[])]):=Pu.ok fun w=>by kernel_rfl
theorem U6(k:IntKind)(i:Int)(h0:0≤i)(h1:i < 7):Pu pG (xV (Instr.index 151 (.agg #[(Value.func (.func 98) #[] #[]),(Value.func (.func 99) #[] #[]),(Value.func (.func 100) #[] #[]),(Value.func (.func 101) #[] #[]),(Value.func (.func 102) #[] #[]),(Value.func (.func 103) #[] #[]),(Value.func (.func 104) #[] #[])]) (.int k i))) (([(Value.func (.func 98) #[] #[]),(Value.func (.func 99) #[] #[]),(Value.func (.func 100) #[] #[]),(Value.func (.func 101) #[] #[]),(Value.func (.func 102) #[] #[]),(Value.func (.func 103) #[] #[]),(Value.func (.func 104) #[] #[])]:List Value).getD i.toNat undef):=by
  obtain rfl | rfl | rfl | rfl | rfl | rfl | rfl:=(by omega:i=0∨i=1∨i=2∨i=3∨i=4∨i=5∨i=6)
  · exact Pu.ok fun w=>by kernel_rfl
  · exact Pu.ok fun w=>by kernel_rfl
  · exact Pu.ok fun w=>by kernel_rfl
  · exact Pu.ok fun w=>by kernel_rfl
  · exact Pu.ok fun w=>by kernel_rfl
  · exact Pu.ok fun w=>by kernel_rfl
  · exact Pu.ok fun w=>by kernel_rfl
theorem b8B(a0a:Option Addr)(a0n a0c:Nat)(a1a:Option Addr)(a1n a1c:Nat)(w:World):(Instr.buildSlice 185 2 #[(0,(Value.slice a0a a0n a0c)),(1,(Value.slice a1a a1n a1c))]).run pG w=.ok (.slice (some ⟨w.heap.size,0,none⟩) 2 2) (w.alloc (.cells [(Value.slice a0a a0n a0c),(Value.slice a1a a1n a1c)].toArray 154)):=by kernel_rfl
theorem b9U(x y:Operand)(s:Sl):Pu pG (xBin .eql 22 x y (vs s) (.slice none 0 0)) (.bool s.a.isNone):=c2F _ _ _ s Tryz.underlying22
abbrev m3(x:j7):List Value:=[(Value.string x.f8),(Value.int .i64 x.C1)]
theorem a8Y(x:j7):(m3 x).length=2:=rfl
theorem b3i(x:j7):(m3 x).all (·.oneCell')=true:=rfl
theorem c7n(w:World):(Instr.buildSlice 22 0 #[]).run pG w=.ok (.slice (some ⟨w.heap.size,0,none⟩) 0 0) (w.alloc (.cells [].toArray 58)):=by kernel_rfl
theorem c9z:Tryz.prog.info? 58=some ((Tryz.prog.info? 58).getD default):=by kernel_rfl
theorem c9A{E:Pan}{w0 w:World}{ps:Nat→Prop}{H0 H:Hp}{Fs:List Frag}{K:Value→World→Prop}{s:Sl}{xs:List j7}{F:Frag}{t2:Sl}{ys:List j7}{ks:List Bool}{ty:TypeId}(I:Inv w0 ps H0 H (F::Fs) w)(hr:RowL 58 2 m3 s xs F)(hs:SrcO w m3 t2 ys)(hb:(xs.length+ys.length)*25≤140737488355328)(h:∀(s':Sl)(F':Frag)(w':World),RowL 58 2 m3 s' (xs++ys) F'→Inv w0 ps H0 H (F'::Fs) w'→(∀k,k < w.heap.size→(∀p∈F,p.1≠k)→w'.heap[k]? = w.heap[k]?)→K (.slice s'.a s'.n s'.c) w'):opK pG E (xBuiltin .append #[22,22] ty ks [.slice s.a s.n s.c,.slice t2.a t2.n t2.c]) w K:=
  a8n (bytes:=24) Tryz.underlying22 c9z (z:=(Value.agg #[(Value.string ⟨#[]⟩),(Value.int .i64 0)])) (by kernel_rfl) (by kernel_rfl) (by kernel_rfl) (by kernel_rfl) I hr hs hb h
theorem b0S(a0:Int)(a1:Int)(a2:Int)(a3:Int)(a4:Int)(b8u:Int)(b8v:Int)(b8w:Int)(b8x:Int):Pu pG (xV (Instr.build 49 #[(0,(Value.int .i64 a0)),(1,(Value.int .i64 a1)),(2,(Value.int .i64 a2)),(3,(Value.int .i64 a3)),(4,(Value.int .i64 a4)),(6,(Value.agg #[(Value.int .i64 b8u),(Value.int .i64 b8v)])),(7,(Value.agg #[(Value.int .i64 b8w),(Value.int .i64 b8x)]))])) (.agg #[(Value.int .i64 a0),(Value.int .i64 a1),(Value.int .i64 a2),(Value.int .i64 a3),(Value.int .i64 a4),(Value.int .i64 0),(Value.int .i64 b8u),(Value.int .i64 b8v),(Value.int .i64 b8w),(Value.int .i64 b8x)]):=Pu.ok fun w=>by kernel_rfl
theorem b8C(a3:Bool):Pu pG (xV (Instr.build 139 #[(3,(Value.bool a3))])) (.agg #[(Value.bool false),(Value.bool false),(Value.bool false),(Value.bool a3),(Value.bool false)]):=Pu.ok fun w=>by kernel_rfl
theorem b8D(a0:Bool):Pu pG (xV (Instr.build 139 #[(0,(Value.bool a0))])) (.agg #[(Value.bool a0),(Value.bool false),(Value.bool false),(Value.bool false),(Value.bool false)]):=Pu.ok fun w=>by kernel_rfl
theorem c1r  : Pu pG (xV (Instr.build 139 #[])) (.agg #[(Value.bool false),(Value.bool false),(Value.bool false),(Value.bool false),(Value.bool false)]):=Pu.ok fun w=>by kernel_rfl
theorem b0i(a0 a1 a2 a3 a4 a5 a6:Int):Pu pG (xV (Instr.build 176 #[(0,.int .i64 a0),(1,.int .i64 a1),(2,.int .i64 a2),(3,.int .i64 a3),(4,.int .i64 a4),(5,.int .i64 a5),(6,.int .i64 a6)])) (.agg #[.int .i64 a0,.int .i64 a1,.int .i64 a2,.int .i64 a3,.int .i64 a4,.int .i64 a5,.int .i64 a6]):=Pu.ok fun w=>by kernel_rfl
theorem c1s(a0 a1 a2 a3 a4 a5 a6:Int)(k:IntKind)(i:Int)(h0:0≤i)(h1:i < 7):Pu pG (xV (Instr.index 176 (.agg #[.int .i64 a0,.int .i64 a1,.int .i64 a2,.int .i64 a3,.int .i64 a4,.int .i64 a5,.int .i64 a6]) (.int k i))) (.int .i64 (([a0,a1,a2,a3,a4,a5,a6]:List Int).getD i.toNat 0)):=by
  obtain rfl | rfl | rfl | rfl | rfl | rfl | rfl:=(by omega:i=0∨i=1∨i=2∨i=3∨i=4∨i=5∨i=6)
  · exact Pu.ok fun w=>by kernel_rfl
  · exact Pu.ok fun w=>by kernel_rfl
  · exact Pu.ok fun w=>by kernel_rfl
  · exact Pu.ok fun w=>by kernel_rfl
  · exact Pu.ok fun w=>by kernel_rfl
  · exact Pu.ok fun w=>by kernel_rfl
  · exact Pu.ok fun w=>by kernel_rfl
theorem c4K(x y:Operand)(a b:Bool):Pu pG (xBin .eql 4 x y (.bool a) (.bool b)) (.bool (a == b)):=c9f _ _ _ a b Tryz.underlying4
theorem b2x(x y:Operand)(a b:Bool):Pu pG (xBin .neq 4 x y (.bool a) (.bool b)) (.bool (a != b)):=c9g _ _ _ a b Tryz.underlying4
theorem c1t  : Pu pG (xV (Instr.build 116 #[])) (.agg #[(Value.int .i64 0),(Value.int .i64 0),(Value.int .i64 0),(Value.bool false),(Value.bool false),(Value.slice none 0 0)]):=Pu.ok fun w=>by kernel_rfl
theorem a9C(a:Option Addr)(n c:Nat):Pu pG (xBuiltin .len #[154] 3 [false] [.slice a n c]) (.int .i64 (n:Int)):=O9 Tryz.underlying154 a n c
theorem c2Q{a:Option Addr}{g o:Nat}(ha:a=some ⟨g,o,none⟩)(len cap:Nat)(k:IntKind)(i:Int)(h0:0≤i)(h1:i < len):Pu pG (xV (Instr.indexAt 154 (.slice a len cap) (.int k i))) (.pointer (some ⟨g,o+i.toNat*1,none⟩)):=Q5 Tryz.underlying154 Tryz.sizeOf157 ha len cap k i h0 h1
theorem b1o{g o:Nat}:Pu pG (xV (Instr.fieldAt 116 (.pointer (some ⟨g,o,none⟩)) 0)) (.pointer (some ⟨g,o+0,none⟩)):=Pu.ok fun w=>by kernel_rfl
theorem b4M{g o:Nat}:Pu pG (xV (Instr.fieldAt 116 (.pointer (some ⟨g,o,none⟩)) 1)) (.pointer (some ⟨g,o+1,none⟩)):=Pu.ok fun w=>by kernel_rfl
theorem b1p{g o:Nat}:Pu pG (xV (Instr.fieldAt 116 (.pointer (some ⟨g,o,none⟩)) 3)) (.pointer (some ⟨g,o+3,none⟩)):=Pu.ok fun w=>by kernel_rfl
theorem b1q{g o:Nat}:Pu pG (xV (Instr.fieldAt 116 (.pointer (some ⟨g,o,none⟩)) 4)) (.pointer (some ⟨g,o+4,none⟩)):=Pu.ok fun w=>by kernel_rfl
theorem b1r{g o:Nat}:Pu pG (xV (Instr.fieldAt 116 (.pointer (some ⟨g,o,none⟩)) 5)) (.pointer (some ⟨g,o+5,none⟩)):=Pu.ok fun w=>by kernel_rfl
theorem b5S(a:Option Addr)(n c:Nat):Pu pG (xBuiltin .len #[185] 3 [false] [.slice a n c]) (.int .i64 (n:Int)):=O9 Tryz.underlying185 a n c
theorem b7o{a:Option Addr}{g o:Nat}(ha:a=some ⟨g,o,none⟩)(len cap:Nat)(k:IntKind)(i:Int)(h0:0≤i)(h1:i < len):Pu pG (xV (Instr.indexAt 185 (.slice a len cap) (.int k i))) (.pointer (some ⟨g,o+i.toNat*1,none⟩)):=Q5 Tryz.underlying185 Tryz.sizeOf154 ha len cap k i h0 h1
theorem c2R(s:ByteArray):Pu pG (xV (Instr.makeInterface 9 (.string s))) (.iface 9 (.string s)):=Pu.ok fun w=>by kernel_rfl
abbrev v8(x:d9):List Value:=[(E4 x)]
theorem P1(x:d9):(v8 x).length=1:=rfl
theorem S3(x:d9):(v8 x).all (·.oneCell')=true:=b7J x
theorem c0o:Tryz.prog.info? 157=some ((Tryz.prog.info? 157).getD default):=by kernel_rfl
theorem b1D{E:Pan}{w0 w:World}{ps:Nat→Prop}{H0 H:Hp}{Fs:List Frag}{K:Value→World→Prop}{s:Sl}{xs:List d9}{F:Frag}{t2:Sl}{ys:List d9}{ks:List Bool}{ty:TypeId}(I:Inv w0 ps H0 H (F::Fs) w)(hr:RowL 157 1 v8 s xs F)(hs:SrcO w v8 t2 ys)(hb:(xs.length+ys.length)*17≤140737488355328)(h:∀(s':Sl)(F':Frag)(w':World),RowL 157 1 v8 s' (xs++ys) F'→Inv w0 ps H0 H (F'::Fs) w'→(∀k,k < w.heap.size→(∀p∈F,p.1≠k)→w'.heap[k]? = w.heap[k]?)→K (.slice s'.a s'.n s'.c) w'):opK pG E (xBuiltin .append #[154,154] ty ks [.slice s.a s.n s.c,.slice t2.a t2.n t2.c]) w K:=
  a8n (bytes:=16) Tryz.underlying154 c0o (z:=Value.nilIface) (by kernel_rfl) (by kernel_rfl) (by kernel_rfl) (by kernel_rfl) I hr hs hb h
theorem b8E(a3s:ByteArray)(a1h:Int):Pu pG (xV (Instr.build 188 #[(0,(Value.agg #[(Value.string a3s),(Value.int .i64 a1h)]))])) (.agg #[(Value.string a3s),(Value.int .i64 a1h)]):=Pu.ok fun w=>by kernel_rfl
theorem b6M(x:W3):Pu pG (xV (Instr.makeInterface 188 (.agg #[(Value.string x.a0G.f8),(Value.int .i64 x.a0G.C1)]))) (E4 (d9.M5 x)):=Pu.ok fun w=>rfl
theorem b8F(a3s:Int)(a1h:ByteArray)(a0_2a:Option Addr)(a0_2n a0_2c:Nat)(a0_3a:Option Addr)(a0_3n a0_3c:Nat)(a0_4a:Option Addr)(a0_4n a0_4c:Nat)(a0_5a:Option Addr)(a0_5n a0_5c:Nat):Pu pG (xV (Instr.build 190 #[(0,(Value.agg #[(Value.int .i64 a3s),(Value.string a1h),(Value.slice a0_2a a0_2n a0_2c),(Value.slice a0_3a a0_3n a0_3c),(Value.slice a0_4a a0_4n a0_4c),(Value.slice a0_5a a0_5n a0_5c)]))])) (.agg #[(Value.int .i64 a3s),(Value.string a1h),(Value.slice a0_2a a0_2n a0_2c),(Value.slice a0_3a a0_3n a0_3c),(Value.slice a0_4a a0_4n a0_4c),(Value.slice a0_5a a0_5n a0_5c)]):=Pu.ok fun w=>by kernel_rfl
theorem b6N(x:S9):Pu pG (xV (Instr.makeInterface 190 (.agg #[(Value.int .i64 x.p6.b8),(Value.string x.p6.f8),(Value.slice x.p6.t7.a x.p6.t7.n x.p6.t7.c),(Value.slice x.p6.D3.a x.p6.D3.n x.p6.D3.c),(Value.slice x.p6.S8.a x.p6.S8.n x.p6.S8.c),(Value.slice x.p6.U7.a x.p6.U7.n x.p6.U7.c)]))) (E4 (d9.K6 x)):=Pu.ok fun w=>rfl
theorem c0p(a0:Int)(w:World):(Instr.buildSlice 26 1 #[(0,(Value.int .i64 a0))]).run pG w=.ok (.slice (some ⟨w.heap.size,0,none⟩) 1 1) (w.alloc (.cells [(Value.int .i64 a0)].toArray 2)):=by kernel_rfl
theorem c2S{E:Pan}{w0 w:World}{ps:Nat→Prop}{H0 H:Hp}{Fs:List Frag}{K:Value→World→Prop}{s:Sl}{xs:List Int}{F:Frag}{t2:Sl}{ys:List Int}{ks:List Bool}{ty:TypeId}(I:Inv w0 ps H0 H (F::Fs) w)(hr:RowL 2 1 i6 s xs F)(hs:SrcO w i6 t2 ys)(hb:(xs.length+ys.length)*9≤140737488355328)(h:∀(s':Sl)(F':Frag)(w':World),RowL 2 1 i6 s' (xs++ys) F'→Inv w0 ps H0 H (F'::Fs) w'→(∀k,k < w.heap.size→(∀p∈F,p.1≠k)→w'.heap[k]? = w.heap[k]?)→K (.slice s'.a s'.n s'.c) w'):opK pG E (xBuiltin .append #[26,26] ty ks [.slice s.a s.n s.c,.slice t2.a t2.n t2.c]) w K:=
  a8n (bytes:=8) Tryz.underlying26 c1n (z:=(Value.int .i64 0)) (by kernel_rfl) (by kernel_rfl) (by kernel_rfl) (by kernel_rfl) I hr hs hb h
theorem a9D{g o:Nat}:Pu pG (xV (Instr.fieldAt 56 (.pointer (some ⟨g,o,none⟩)) 2)) (.pointer (some ⟨g,o+2,none⟩)):=Pu.ok fun w=>by kernel_rfl
theorem a7p{g o:Nat}:Pu pG (xV (Instr.fieldAt 56 (.pointer (some ⟨g,o,none⟩)) 3)) (.pointer (some ⟨g,o+3,none⟩)):=Pu.ok fun w=>by kernel_rfl
theorem b2y{g o:Nat}:Pu pG (xV (Instr.fieldAt 56 (.pointer (some ⟨g,o,none⟩)) 5)) (.pointer (some ⟨g,o+5,none⟩)):=Pu.ok fun w=>by kernel_rfl
theorem b4N(k:IntKind)(n:Int):Pu pG (xV (convert 2 177 (.int k n))) (.int .u64 (IntKind.wrap .u64 n)):=Pu.ok fun w=>run_convert_int (P:=pG) (w:=w) 2 177 k n (by rw [Tryz.underlying2];rfl) Tryz.underlying177
theorem a8u(a5 a6 a7 a8 a9 a10 a3 a4:Int):Pu pG (xV (Instr.build 198 #[(5,.int .i64 a5),(6,.int .i64 a6),(7,.int .i64 a7),(8,.int .i64 a8),(9,.int .i64 a9),(10,.int .i64 a10),(3,.int .i64 a3),(4,.int .i64 a4)])) (.agg #[.int .i64 0,.int .i64 0,.int .i64 0,.int .i64 a3,.int .i64 a4,.int .i64 a5,.int .i64 a6,.int .i64 a7,.int .i64 a8,.int .i64 a9,.int .i64 a10]):=Pu.ok fun w=>by kernel_rfl
theorem c1u(a0 a1 a2 a3 a4 a5 a6 a7 a8 a9 a10:Int)(k:IntKind)(i:Int)(h0:0≤i)(h1:i < 11):Pu pG (xV (Instr.index 198 (.agg #[.int .i64 a0,.int .i64 a1,.int .i64 a2,.int .i64 a3,.int .i64 a4,.int .i64 a5,.int .i64 a6,.int .i64 a7,.int .i64 a8,.int .i64 a9,.int .i64 a10]) (.int k i))) (.int .i64 (([a0,a1,a2,a3,a4,a5,a6,a7,a8,a9,a10]:List Int).getD i.toNat 0)):=by
  obtain rfl | rfl | rfl | rfl | rfl | rfl | rfl | rfl | rfl | rfl | rfl:=(by omega:i=0∨i=1∨i=2∨i=3∨i=4∨i=5∨i=6∨i=7∨i=8∨i=9∨i=10)
  · exact Pu.ok fun w=>by kernel_rfl
  · exact Pu.ok fun w=>by kernel_rfl
  · exact Pu.ok fun w=>by kernel_rfl
  · exact Pu.ok fun w=>by kernel_rfl
  · exact Pu.ok fun w=>by kernel_rfl
  · exact Pu.ok fun w=>by kernel_rfl
  · exact Pu.ok fun w=>by kernel_rfl
  · exact Pu.ok fun w=>by kernel_rfl
  · exact Pu.ok fun w=>by kernel_rfl
  · exact Pu.ok fun w=>by kernel_rfl
  · exact Pu.ok fun w=>by kernel_rfl
theorem b7L(x:d9):Pu pG (xV (Instr.typeAssert (E4 x) 157 188 true)) (.tuple #[(Value.agg #[(Value.string ((((x.a1X)).a0G).f8)),(Value.int .i64 ((((x.a1X)).a0G).C1))]),.bool (x.a5K)]):=by
  cases x<;>exact Pu.ok fun w=>by kernel_rfl
theorem b1s{g o:Nat}:Pu pG (xV (Instr.fieldAt 188 (.pointer (some ⟨g,o,none⟩)) 0)) (.pointer (some ⟨g,o+0,none⟩)):=Pu.ok fun w=>by kernel_rfl
theorem b7M(x:d9):Pu pG (xV (Instr.typeAssert (E4 x) 157 190 true)) (.tuple #[(Value.agg #[(Value.int .i64 ((((x.A7)).p6).b8)),(Value.string ((((x.A7)).p6).f8)),(Value.slice ((((x.A7)).p6).t7).a ((((x.A7)).p6).t7).n ((((x.A7)).p6).t7).c),(Value.slice ((((x.A7)).p6).D3).a ((((x.A7)).p6).D3).n ((((x.A7)).p6).D3).c),(Value.slice ((((x.A7)).p6).S8).a ((((x.A7)).p6).S8).n ((((x.A7)).p6).S8).c),(Value.slice ((((x.A7)).p6).U7).a ((((x.A7)).p6).U7).n ((((x.A7)).p6).U7).c)]),.bool (x.a5L)]):=by
  cases x<;>exact Pu.ok fun w=>by kernel_rfl
theorem N2{g o:Nat}:Pu pG (xV (Instr.fieldAt 190 (.pointer (some ⟨g,o,none⟩)) 0)) (.pointer (some ⟨g,o+0,none⟩)):=Pu.ok fun w=>by kernel_rfl
theorem b7N(x:d9):Pu pG (xV (Instr.typeAssert (E4 x) 157 200 true)) (.tuple #[(Value.agg #[(Value.int .i64 ((((x.E9)).A6).b8)),(Value.int .i64 ((((x.E9)).A6).s8)),(Value.string ((((x.E9)).A6).f8)),(Value.slice ((((x.E9)).A6).D9).a ((((x.E9)).A6).D9).n ((((x.E9)).A6).D9).c)]),.bool (x.a5M)]):=by
  cases x<;>exact Pu.ok fun w=>by kernel_rfl
theorem a0e{g o:Nat}:Pu pG (xV (Instr.fieldAt 200 (.pointer (some ⟨g,o,none⟩)) 0)) (.pointer (some ⟨g,o+0,none⟩)):=Pu.ok fun w=>by kernel_rfl
theorem b8G{a:Option Addr}{g o:Nat}(ha:a=some ⟨g,o,none⟩)(len cap:Nat)(k:IntKind)(i:Int)(h0:0≤i)(h1:i < len):Pu pG (xV (Instr.indexAt 36 (.slice a len cap) (.int k i))) (.pointer (some ⟨g,o+i.toNat*1,none⟩)):=Q5 Tryz.underlying36 Tryz.sizeOf9 ha len cap k i h0 h1
theorem a1Y(a0:Int)(a1:Int):Pu pG (xV (Instr.build 227 #[(0,(Value.int .i64 a0)),(1,(Value.int .i64 a1))])) (.agg #[(Value.int .i64 a0),(Value.int .i64 a1)]):=Pu.ok fun w=>by kernel_rfl
theorem c7o(d:Nat)(a0 b0:Int)(a1 b1:Int)(w:World):(Op.equalIn (d+2) 227 (.agg #[(Value.int .i64 a0),(Value.int .i64 a1)]) (.agg #[(Value.int .i64 b0),(Value.int .i64 b1)])).run pG w=.ok (decide (a0=b0∧a1=b1)) w:=by
  have u3:=Tryz.underlying3
  have i3:=Tryz.isAgg3
  have s3:=Tryz.sizeOf3
  have hS:Tryz.prog.underlying 227=some (.struct (Tryz.prog.fieldsOf 227)):=by kernel_rfl
  rw [run_equalIn_agg w (d+1) 227 _ _ hS (by kernel_rfl)]
  simp only [Program.fieldsOf,Tryz.underlying227]
  go_simp
  try simp only [b2h]
  by_cases h0:a0=b0
  · by_cases h1:a1=b1
    · simp [h0,h1]
    · simp [h0,h1]
  · simp [h0]
theorem a7a(x y:Operand)(a0 b0:Int)(a1 b1:Int):Pu pG (xBin .eql 227 x y (.agg #[(Value.int .i64 a0),(Value.int .i64 a1)]) (.agg #[(Value.int .i64 b0),(Value.int .i64 b1)])) (.bool (decide (a0=b0∧a1=b1))):=by
  refine Pu.ok (s:=do eqGuard .eql 227 x y (.agg #[(Value.int .i64 a0),(Value.int .i64 a1)]) (.agg #[(Value.int .i64 b0),(Value.int .i64 b1)]);binOp .eql 227 (.agg #[(Value.int .i64 a0),(Value.int .i64 a1)]) (.agg #[(Value.int .i64 b0),(Value.int .i64 b1)])) fun w=>?_
  rw [Sem.run_bind,run_eqGuard_agg w _ _ _ _ _ _ (by kernel_rfl),Result.andThen_ok,run_eql_struct,show (10000:Nat)=9998+2 from rfl,c7o]
  rfl
theorem c1v  : Pu pG (xV (Instr.build 227 #[])) (.agg #[(Value.int .i64 0),(Value.int .i64 0)]):=Pu.ok fun w=>by kernel_rfl
theorem c4L(a0a:Option Addr)(a0n a0c:Nat)(a1a:Option Addr)(a1n a1c:Nat)(a2a:Option Addr)(a2n a2c:Nat)(a3a:Option Addr)(a3n a3c:Nat)(w:World):(Instr.buildSlice 185 4 #[(0,(Value.slice a0a a0n a0c)),(1,(Value.slice a1a a1n a1c)),(2,(Value.slice a2a a2n a2c)),(3,(Value.slice a3a a3n a3c))]).run pG w=.ok (.slice (some ⟨w.heap.size,0,none⟩) 4 4) (w.alloc (.cells [(Value.slice a0a a0n a0c),(Value.slice a1a a1n a1c),(Value.slice a2a a2n a2c),(Value.slice a3a a3n a3c)].toArray 154)):=by kernel_rfl
theorem b8H(a3s:Int)(a1h:Int)(a0_2a:Option Addr)(a0_2n a0_2c:Nat)(a0_3a:Option Addr)(a0_3n a0_3c:Nat):Pu pG (xV (Instr.build 233 #[(0,(Value.agg #[(Value.int .i64 a3s),(Value.int .i64 a1h),(Value.slice a0_2a a0_2n a0_2c),(Value.slice a0_3a a0_3n a0_3c)]))])) (.agg #[(Value.int .i64 a3s),(Value.int .i64 a1h),(Value.slice a0_2a a0_2n a0_2c),(Value.slice a0_3a a0_3n a0_3c)]):=Pu.ok fun w=>by kernel_rfl
theorem b6O(x:T0):Pu pG (xV (Instr.makeInterface 233 (.agg #[(Value.int .i64 x.z6.b8),(Value.int .i64 x.z6.fOp),(Value.slice x.z6.t7.a x.z6.t7.n x.z6.t7.c),(Value.slice x.z6.C7.a x.z6.C7.n x.z6.C7.c)]))) (E4 (d9.N1 x)):=Pu.ok fun w=>rfl
theorem b8I(a3s:Int)(a1h:Int)(b3y:ByteArray)(a0_3a:Option Addr)(a0_3n a0_3c:Nat):Pu pG (xV (Instr.build 200 #[(0,(Value.agg #[(Value.int .i64 a3s),(Value.int .i64 a1h),(Value.string b3y),(Value.slice a0_3a a0_3n a0_3c)]))])) (.agg #[(Value.int .i64 a3s),(Value.int .i64 a1h),(Value.string b3y),(Value.slice a0_3a a0_3n a0_3c)]):=Pu.ok fun w=>by kernel_rfl
theorem b1E(x:M9):Pu pG (xV (Instr.makeInterface 200 (.agg #[(Value.int .i64 x.A6.b8),(Value.int .i64 x.A6.s8),(Value.string x.A6.f8),(Value.slice x.A6.D9.a x.A6.D9.n x.A6.D9.c)]))) (E4 (d9.K1 x)):=Pu.ok fun w=>rfl
theorem a1b{g o:Nat}:Pu pG (xV (Instr.fieldAt 233 (.pointer (some ⟨g,o,none⟩)) 0)) (.pointer (some ⟨g,o+0,none⟩)):=Pu.ok fun w=>by kernel_rfl
theorem a5T(a0:Int)(a1:Int):Pu pG (xV (Instr.build 236 #[(0,(Value.int .i64 a0)),(1,(Value.int .i64 a1))])) (.agg #[(Value.int .i64 a0),(Value.int .i64 a1)]):=Pu.ok fun w=>by kernel_rfl
theorem c7p(d:Nat)(a0 b0:Int)(a1 b1:Int)(w:World):(Op.equalIn (d+2) 236 (.agg #[(Value.int .i64 a0),(Value.int .i64 a1)]) (.agg #[(Value.int .i64 b0),(Value.int .i64 b1)])).run pG w=.ok (decide (a0=b0∧a1=b1)) w:=by
  have u3:=Tryz.underlying3
  have i3:=Tryz.isAgg3
  have s3:=Tryz.sizeOf3
  have hS:Tryz.prog.underlying 236=some (.struct (Tryz.prog.fieldsOf 236)):=by kernel_rfl
  rw [run_equalIn_agg w (d+1) 236 _ _ hS (by kernel_rfl)]
  simp only [Program.fieldsOf,Tryz.underlying236]
  go_simp
  try simp only [b2h]
  by_cases h0:a0=b0
  · by_cases h1:a1=b1
    · simp [h0,h1]
    · simp [h0,h1]
  · simp [h0]
theorem b1e(x y:Operand)(a0 b0:Int)(a1 b1:Int):Pu pG (xBin .eql 236 x y (.agg #[(Value.int .i64 a0),(Value.int .i64 a1)]) (.agg #[(Value.int .i64 b0),(Value.int .i64 b1)])) (.bool (decide (a0=b0∧a1=b1))):=by
  refine Pu.ok (s:=do eqGuard .eql 236 x y (.agg #[(Value.int .i64 a0),(Value.int .i64 a1)]) (.agg #[(Value.int .i64 b0),(Value.int .i64 b1)]);binOp .eql 236 (.agg #[(Value.int .i64 a0),(Value.int .i64 a1)]) (.agg #[(Value.int .i64 b0),(Value.int .i64 b1)])) fun w=>?_
  rw [Sem.run_bind,run_eqGuard_agg w _ _ _ _ _ _ (by kernel_rfl),Result.andThen_ok,run_eql_struct,show (10000:Nat)=9998+2 from rfl,c7p]
  rfl
theorem c1w  : Pu pG (xV (Instr.build 236 #[])) (.agg #[(Value.int .i64 0),(Value.int .i64 0)]):=Pu.ok fun w=>by kernel_rfl
theorem b2z(a0:d9)(w:World):(Instr.buildSlice 154 1 #[(0,(E4 a0))]).run pG w=.ok (.slice (some ⟨w.heap.size,0,none⟩) 1 1) (w.alloc (.cells [(E4 a0)].toArray 157)):=by cases a0<;>kernel_rfl
abbrev v7(x:z8):List Value:=[(Value.slice x.a5g.a x.a5g.n x.a5g.c),(Value.slice x.a5J.a x.a5J.n x.a5J.c)]
abbrev q7(x:f7):List Value:=[(Value.int .i64 x.P0),(Value.int .i64 x.a0f),(Value.int .i64 x.J8),(Value.slice x.K8.a x.K8.n x.K8.c),(Value.slice x.o9.a x.o9.n x.o9.c),(Value.slice x.m8.a x.m8.n x.m8.c)]
abbrev s7(x:l9):List Value:=[(Value.slice x.o9.a x.o9.n x.o9.c),(Value.int .i64 x.t8),(Value.slice x.m8.a x.m8.n x.m8.c),(Value.int .i64 x.o7),(Value.int .i64 x.B6),(Value.slice x.B5.a x.B5.n x.B5.c)]
abbrev m4(x:o3):List Value:=[(Value.int .i64 x.A8),(Value.int .i64 x.s8)]
abbrev p8(x:B4):List Value:=[(Value.int .i64 x.b8),(Value.string x.f8),(Value.slice x.t7.a x.t7.n x.t7.c),(Value.slice x.D3.a x.D3.n x.D3.c),(Value.slice x.S8.a x.S8.n x.S8.c),(Value.slice x.U7.a x.U7.n x.U7.c)]
abbrev p5(x:y9):List Value:=[(Value.int .i64 x.b8),(Value.int .i64 x.fOp),(Value.slice x.t7.a x.t7.n x.t7.c),(Value.slice x.C7.a x.C7.n x.C7.c)]
abbrev j9(x:q8):List Value:=[(Value.int .i64 x.b8),(Value.int .i64 x.s8),(Value.string x.f8),(Value.slice x.D9.a x.D9.n x.D9.c)]
abbrev b1F(x:p9):List Value:=[(Value.int .i64 x.fnodes),(Value.int .i64 x.fdepth),(Value.int .i64 x.fe),(Value.bool x.fform),(Value.bool x.fnamed),(Value.slice x.fnames.a x.fnames.n x.fnames.c)]
abbrev a7q(x:m5):List Value:=[(Value.bool x.fdst),(Value.bool x.farr),(Value.bool x.fop),(Value.bool x.fa),(Value.bool x.fb)]
end Go.Proofs.YthaaobpfbgcfiaaGreatDoor
