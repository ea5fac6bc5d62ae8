/- Single operations at this program's types, and its structures; printed by lift.py. -/
import Derived.KernelRfl
import Derived.Laws.StructEq
import Derived.Laws.Cover2
import Derived.Test.YtpgelfheccpejaaDooryCS5
import Derived.Test.YtpgelfheccpejaaDooryCGz
namespace Go.Proofs.YtpgelfheccpejaaDoor
open Go.RowKit
set_option maxRecDepth 100000
set_option maxHeartbeats 2000000
structure d4 where
  B3:Sl
  M7:Sl
structure b8 where
  b7:Int
  M8:Int
  f4:ByteArray
  v7:Sl
structure a8 where
  fn:Int
  fdepth:Int
  fbad:Int
structure a7 where
  fok:Bool
  fnames:Bool
structure s7 where
  f4:ByteArray
  X1:Int
structure c6 where
  b7:Int
  f4:ByteArray
  d5:Sl
  m8:Sl
  B1:Sl
  A8:Sl
structure b9 where
  b7:Int
  fOp:Int
  d5:Sl
  q6:Sl
structure f8 where
  fnodes:Int
  fdepth:Int
  fe:Int
  fform:Bool
  fnamed:Bool
  fnames:Sl
structure D6 where
  p9:b8
structure T2 where
  X2:s7
structure P0 where
  d6:c6
structure P1 where
  m6:b9
structure s8 where
  fexprs:Int
  fconds:Int
structure i8 where
  fexprs:Int
  fparts:Int
abbrev a0o(x:f8)(s0:Sl):List Value:=[(vi x.fnodes),(vi x.fdepth),(vi x.fe),(Value.bool x.fform),(Value.bool x.fnamed),(vs s0)]
abbrev Y1(x:f8):f8:=f8.mk x.fnodes x.fdepth x.fe x.fform x.fnamed (Sl.mk none 0 0)
inductive c8 where
  | nil
  | B5 (x:D6)
  | J3 (x:T2)
  | D4 (x:P0)
  | K1 (x:P1)
def C7:c8→Value
  | .nil=>.nilIface
  | .B5 x=>.iface 71 (.agg #[(Value.int .i64 x.p9.b7),(Value.int .i64 x.p9.M8),(Value.string x.p9.f4),(Value.slice x.p9.v7.a x.p9.v7.n x.p9.v7.c)])
  | .J3 x=>.iface 108 (.agg #[(Value.string x.X2.f4),(Value.int .i64 x.X2.X1)])
  | .D4 x=>.iface 110 (.agg #[(Value.int .i64 x.d6.b7),(Value.string x.d6.f4),(Value.slice x.d6.d5.a x.d6.d5.n x.d6.d5.c),(Value.slice x.d6.m8.a x.d6.m8.n x.d6.m8.c),(Value.slice x.d6.B1.a x.d6.B1.n x.d6.B1.c),(Value.slice x.d6.A8.a x.d6.A8.n x.d6.A8.c)])
  | .K1 x=>.iface 149 (.agg #[(Value.int .i64 x.m6.b7),(Value.int .i64 x.m6.fOp),(Value.slice x.m6.d5.a x.m6.d5.n x.m6.d5.c),(Value.slice x.m6.q6.a x.m6.q6.n x.m6.q6.c)])
theorem b0e(x:c8):[C7 x].all (·.oneCell')=true:=by cases x<;>rfl
def c8.D2:c8→D6
  | .B5 x=>x
  | _=>(D6.mk (b8.mk 0 0 ⟨#[]⟩ (Sl.mk none 0 0)))
def c8.a3D:c8→Bool
  | .B5 _=>true
  | _=>false
def c8.a1u:c8→T2
  | .J3 x=>x
  | _=>(T2.mk (s7.mk ⟨#[]⟩ 0))
def c8.a3E:c8→Bool
  | .J3 _=>true
  | _=>false
def c8.q8:c8→P0
  | .D4 x=>x
  | _=>(P0.mk (c6.mk 0 ⟨#[]⟩ (Sl.mk none 0 0) (Sl.mk none 0 0) (Sl.mk none 0 0) (Sl.mk none 0 0)))
def c8.a3F:c8→Bool
  | .D4 _=>true
  | _=>false
theorem L1{g o:Nat}:Pu pG (xV (Instr.fieldAt 25 (.pointer (some ⟨g,o,none⟩)) 0)) (.pointer (some ⟨g,o+0,none⟩)):=Pu.ok fun w=>by kernel_rfl
theorem a0K(a:Option Addr)(n c:Nat):Pu pG (xBuiltin .len #[22] 3 [false] [.slice a n c]) (.int .i64 (n:Int)):=a1x Tryd.underlying22 a n c
theorem L2{g o:Nat}:Pu pG (xV (Instr.fieldAt 25 (.pointer (some ⟨g,o,none⟩)) 1)) (.pointer (some ⟨g,o+1,none⟩)):=Pu.ok fun w=>by kernel_rfl
theorem J6(a:Option Addr)(n c:Nat):Pu pG (xBuiltin .len #[23] 3 [false] [.slice a n c]) (.int .i64 (n:Int)):=a1x Tryd.underlying23 a n c
theorem b0f(a0:Int)(a1:Int):Pu pG (xV (Instr.build 41 #[(1,(Value.int .i64 a1)),(0,(Value.int .i64 a0))])) (.agg #[(Value.int .i64 a0),(Value.int .i64 a1),(Value.string ⟨#[]⟩),(Value.slice none 0 0)]):=Pu.ok fun w=>by kernel_rfl
theorem b4i  : Pu pG (xV (Instr.build 25 #[])) (.agg #[(Value.slice none 0 0),(Value.slice none 0 0)]):=Pu.ok fun w=>by kernel_rfl
theorem a5f(a0a:Option Addr)(a0n a0c:Nat)(a1a:Option Addr)(a1n a1c:Nat):Pu pG (xV (Instr.build 25 #[(0,(Value.slice a0a a0n a0c)),(1,(Value.slice a1a a1n a1c))])) (.agg #[(Value.slice a0a a0n a0c),(Value.slice a1a a1n a1c)]):=Pu.ok fun w=>by kernel_rfl
theorem S3{g o:Nat}:Pu pG (xV (Instr.fieldAt 52 (.pointer (some ⟨g,o,none⟩)) 2)) (.pointer (some ⟨g,o+2,none⟩)):=Pu.ok fun w=>by kernel_rfl
theorem b0g(a0:Bool)(a1:Bool):Pu pG (xV (Instr.build 55 #[(0,(Value.bool a0)),(1,(Value.bool a1))])) (.agg #[(Value.bool a0),(Value.bool a1)]):=Pu.ok fun w=>by kernel_rfl
theorem D7{g o:Nat}:Pu pG (xV (Instr.fieldAt 55 (.pointer (some ⟨g,o,none⟩)) 0)) (.pointer (some ⟨g,o+0,none⟩)):=Pu.ok fun w=>by kernel_rfl
theorem a2F{a:Option Addr}{g o:Nat}(ha:a=some ⟨g,o,none⟩)(len cap:Nat)(k:IntKind)(i:Int)(h0:0≤i)(h1:i < len):Pu pG (xV (Instr.indexAt 22 (.slice a len cap) (.int k i))) (.pointer (some ⟨g,o+i.toNat*2,none⟩)):=a2D Tryd.underlying22 Tryd.sizeOf45 ha len cap k i h0 h1
theorem a5o{g o:Nat}:Pu pG (xV (Instr.fieldAt 45 (.pointer (some ⟨g,o,none⟩)) 1)) (.pointer (some ⟨g,o+1,none⟩)):=Pu.ok fun w=>by kernel_rfl
theorem a8W{g o:Nat}:Pu pG (xV (Instr.fieldAt 45 (.pointer (some ⟨g,o,none⟩)) 0)) (.pointer (some ⟨g,o+0,none⟩)):=Pu.ok fun w=>by kernel_rfl
theorem a6W{g o:Nat}:Pu pG (xV (Instr.fieldAt 55 (.pointer (some ⟨g,o,none⟩)) 1)) (.pointer (some ⟨g,o+1,none⟩)):=Pu.ok fun w=>by kernel_rfl
theorem J4{a:Option Addr}{g o:Nat}(ha:a=some ⟨g,o,none⟩)(len cap:Nat)(k:IntKind)(i:Int)(h0:0≤i)(h1:i < len):Pu pG (xV (Instr.indexAt 23 (.slice a len cap) (.int k i))) (.pointer (some ⟨g,o+i.toNat*6,none⟩)):=a2D Tryd.underlying23 Tryd.sizeOf49 ha len cap k i h0 h1
theorem S4{g o:Nat}:Pu pG (xV (Instr.fieldAt 49 (.pointer (some ⟨g,o,none⟩)) 0)) (.pointer (some ⟨g,o+0,none⟩)):=Pu.ok fun w=>by kernel_rfl
theorem a0C{g o:Nat}:Pu pG (xV (Instr.fieldAt 49 (.pointer (some ⟨g,o,none⟩)) 1)) (.pointer (some ⟨g,o+1,none⟩)):=Pu.ok fun w=>by kernel_rfl
theorem D8{g o:Nat}:Pu pG (xV (Instr.fieldAt 49 (.pointer (some ⟨g,o,none⟩)) 2)) (.pointer (some ⟨g,o+2,none⟩)):=Pu.ok fun w=>by kernel_rfl
theorem B0(a:Option Addr)(n c:Nat):Pu pG (xBuiltin .len #[39] 3 [false] [.slice a n c]) (.int .i64 (n:Int)):=a1x Tryd.underlying39 a n c
theorem G7{g o:Nat}:Pu pG (xV (Instr.fieldAt 49 (.pointer (some ⟨g,o,none⟩)) 3)) (.pointer (some ⟨g,o+3,none⟩)):=Pu.ok fun w=>by kernel_rfl
theorem K2(a:Option Addr)(n c:Nat):Pu pG (xBuiltin .len #[47] 3 [false] [.slice a n c]) (.int .i64 (n:Int)):=a1x Tryd.underlying47 a n c
theorem P2{g o:Nat}:Pu pG (xV (Instr.fieldAt 49 (.pointer (some ⟨g,o,none⟩)) 4)) (.pointer (some ⟨g,o+4,none⟩)):=Pu.ok fun w=>by kernel_rfl
theorem O0{g o:Nat}:Pu pG (xV (Instr.fieldAt 49 (.pointer (some ⟨g,o,none⟩)) 5)) (.pointer (some ⟨g,o+5,none⟩)):=Pu.ok fun w=>by kernel_rfl
theorem Y2{a:Option Addr}{g o:Nat}(ha:a=some ⟨g,o,none⟩)(len cap:Nat)(k:IntKind)(i:Int)(h0:0≤i)(h1:i < len):Pu pG (xV (Instr.indexAt 47 (.slice a len cap) (.int k i))) (.pointer (some ⟨g,o+i.toNat*4,none⟩)):=a2D Tryd.underlying47 Tryd.sizeOf77 ha len cap k i h0 h1
theorem a1e{g o:Nat}:Pu pG (xV (Instr.fieldAt 77 (.pointer (some ⟨g,o,none⟩)) 0)) (.pointer (some ⟨g,o+0,none⟩)):=Pu.ok fun w=>by kernel_rfl
theorem Y3{g o:Nat}:Pu pG (xV (Instr.fieldAt 77 (.pointer (some ⟨g,o,none⟩)) 1)) (.pointer (some ⟨g,o+1,none⟩)):=Pu.ok fun w=>by kernel_rfl
theorem G8{g o:Nat}:Pu pG (xV (Instr.fieldAt 77 (.pointer (some ⟨g,o,none⟩)) 2)) (.pointer (some ⟨g,o+2,none⟩)):=Pu.ok fun w=>by kernel_rfl
theorem G9{g o:Nat}:Pu pG (xV (Instr.fieldAt 77 (.pointer (some ⟨g,o,none⟩)) 3)) (.pointer (some ⟨g,o+3,none⟩)):=Pu.ok fun w=>by kernel_rfl
theorem O3{a:Option Addr}{g o:Nat}(ha:a=some ⟨g,o,none⟩)(len cap:Nat)(k:IntKind)(i:Int)(h0:0≤i)(h1:i < len):Pu pG (xV (Instr.indexAt 39 (.slice a len cap) (.int k i))) (.pointer (some ⟨g,o+i.toNat*4,none⟩)):=a2D Tryd.underlying39 Tryd.sizeOf41 ha len cap k i h0 h1
theorem T3{g o:Nat}:Pu pG (xV (Instr.fieldAt 41 (.pointer (some ⟨g,o,none⟩)) 0)) (.pointer (some ⟨g,o+0,none⟩)):=Pu.ok fun w=>by kernel_rfl
theorem a2b{g o:Nat}:Pu pG (xV (Instr.fieldAt 41 (.pointer (some ⟨g,o,none⟩)) 2)) (.pointer (some ⟨g,o+2,none⟩)):=Pu.ok fun w=>by kernel_rfl
theorem I0{g o:Nat}:Pu pG (xV (Instr.fieldAt 41 (.pointer (some ⟨g,o,none⟩)) 3)) (.pointer (some ⟨g,o+3,none⟩)):=Pu.ok fun w=>by kernel_rfl
theorem a1f{g o:Nat}:Pu pG (xV (Instr.fieldAt 41 (.pointer (some ⟨g,o,none⟩)) 1)) (.pointer (some ⟨g,o+1,none⟩)):=Pu.ok fun w=>by kernel_rfl
theorem b7V(d:Nat)(a0 b0:ByteArray)(a1 b1:Int)(w:World):(Op.equalIn (d+2) 45 (.agg #[(Value.string a0),(Value.int .i64 a1)]) (.agg #[(Value.string b0),(Value.int .i64 b1)])).run pG w=.ok (decide (a0=b0∧a1=b1)) w:=by
  have u9:=Tryd.underlying9
  have i9:=Tryd.isAgg9
  have s9:=Tryd.sizeOf9
  have u3:=Tryd.underlying3
  have i3:=Tryd.isAgg3
  have s3:=Tryd.sizeOf3
  have hS:Tryd.prog.underlying 45=some (.struct (Tryd.prog.fieldsOf 45)):=by kernel_rfl
  rw [run_equalIn_agg w (d+1) 45 _ _ hS (by kernel_rfl)]
  simp only [Program.fieldsOf,Tryd.underlying45]
  go_simp
  try simp only [a8H]
  by_cases h0:a0=b0
  · by_cases h1:a1=b1
    · simp [h0,h1]
    · simp [h0,h1]
  · simp [h0]
theorem b0H(x y:Operand)(a0 b0:ByteArray)(a1 b1:Int):Pu pG (xBin .neq 45 x y (.agg #[(Value.string a0),(Value.int .i64 a1)]) (.agg #[(Value.string b0),(Value.int .i64 b1)])) (.bool (!decide (a0=b0∧a1=b1))):=by
  refine Pu.ok (s:=do eqGuard .neq 45 x y (.agg #[(Value.string a0),(Value.int .i64 a1)]) (.agg #[(Value.string b0),(Value.int .i64 b1)]);binOp .neq 45 (.agg #[(Value.string a0),(Value.int .i64 a1)]) (.agg #[(Value.string b0),(Value.int .i64 b1)])) fun w=>?_
  rw [Sem.run_bind,run_eqGuard_agg w _ _ _ _ _ _ (by kernel_rfl),Result.andThen_ok,run_neq_struct,show (10000:Nat)=9998+2 from rfl,b7V]
  rfl
abbrev j8(x:s7):List Value:=[(Value.string x.f4),(Value.int .i64 x.X1)]
theorem a2P(x:s7):(j8 x).length=2:=rfl
theorem a5g(x:s7):(j8 x).all (·.oneCell')=true:=rfl
theorem b7W:Tryd.prog.info? 45=some ((Tryd.prog.info? 45).getD default):=by kernel_rfl
theorem b4j{E:Pan}{w0 w:World}{ps:Nat→Prop}{H0 H:Hp}{Fs:List Frag}{K:Value→World→Prop}{s:Sl}{xs:List s7}{F:Frag}{t2:Sl}{ys:List s7}{ks:List Bool}{ty:TypeId}(I:Inv w0 ps H0 H (F::Fs) w)(hr:RowL 45 2 j8 s xs F)(hs:SrcO w j8 t2 ys)(hb:(xs.length+ys.length)*25≤140737488355328)(h:∀(s':Sl)(F':Frag)(w':World),RowL 45 2 j8 s' (xs++ys) F'→Inv w0 ps H0 H (F'::Fs) w'→(∀k,k < w.heap.size→(∀p∈F,p.1≠k)→w'.heap[k]? = w.heap[k]?)→K (.slice s'.a s'.n s'.c) w'):opK pG E (xBuiltin .append #[22,22] ty ks [.slice s.a s.n s.c,.slice t2.a t2.n t2.c]) w K:=
  a7U (bytes:=24) Tryd.underlying22 b7W (z:=(Value.agg #[(Value.string ⟨#[]⟩),(Value.int .i64 0)])) (by kernel_rfl) (by kernel_rfl) (by kernel_rfl) (by kernel_rfl) I hr hs hb h
theorem a0D{g o:Nat}:Pu pG (xV (Instr.fieldAt 68 (.pointer (some ⟨g,o,none⟩)) 2)) (.pointer (some ⟨g,o+2,none⟩)):=Pu.ok fun w=>by kernel_rfl
theorem a6X{g o:Nat}:Pu pG (xV (Instr.fieldAt 68 (.pointer (some ⟨g,o,none⟩)) 1)) (.pointer (some ⟨g,o+1,none⟩)):=Pu.ok fun w=>by kernel_rfl
theorem b0h(a0:Int)(a2:ByteArray):Pu pG (xV (Instr.build 41 #[(0,(Value.int .i64 a0)),(2,(Value.string a2))])) (.agg #[(Value.int .i64 a0),(Value.int .i64 0),(Value.string a2),(Value.slice none 0 0)]):=Pu.ok fun w=>by kernel_rfl
theorem b0i(a0:Int)(a1:Int):Pu pG (xV (Instr.build 41 #[(0,(Value.int .i64 a0)),(1,(Value.int .i64 a1))])) (.agg #[(Value.int .i64 a0),(Value.int .i64 a1),(Value.string ⟨#[]⟩),(Value.slice none 0 0)]):=Pu.ok fun w=>by kernel_rfl
abbrev c7(x:b8):List Value:=[(Value.int .i64 x.b7),(Value.int .i64 x.M8),(Value.string x.f4),(Value.slice x.v7.a x.v7.n x.v7.c)]
theorem O1(x:b8):(c7 x).length=4:=rfl
theorem O2(x:b8):(c7 x).all (·.oneCell')=true:=rfl
theorem b7b(a0L:Int)(a0M:Int)(a7G:ByteArray)(a0_3a:Option Addr)(a0_3n a0_3c:Nat)(b7X:Int)(b7Y:Int)(b7Z:ByteArray)(a1_3a:Option Addr)(a1_3n a1_3c:Nat)(w:World):(Instr.buildSlice 39 2 #[(0,(Value.agg #[(Value.int .i64 a0L),(Value.int .i64 a0M),(Value.string a7G),(Value.slice a0_3a a0_3n a0_3c)])),(1,(Value.agg #[(Value.int .i64 b7X),(Value.int .i64 b7Y),(Value.string b7Z),(Value.slice a1_3a a1_3n a1_3c)]))]).run pG w=.ok (.slice (some ⟨w.heap.size,0,none⟩) 2 2) (w.alloc (.cells [(Value.int .i64 a0L),(Value.int .i64 a0M),(Value.string a7G),(Value.slice a0_3a a0_3n a0_3c),(Value.int .i64 b7X),(Value.int .i64 b7Y),(Value.string b7Z),(Value.slice a1_3a a1_3n a1_3c)].toArray 41)):=by kernel_rfl
theorem b0j(a0:Int)(a3a:Option Addr)(a3n a3c:Nat):Pu pG (xV (Instr.build 41 #[(0,(Value.int .i64 a0)),(3,(Value.slice a3a a3n a3c))])) (.agg #[(Value.int .i64 a0),(Value.int .i64 0),(Value.string ⟨#[]⟩),(Value.slice a3a a3n a3c)]):=Pu.ok fun w=>by kernel_rfl
theorem b2J(a0:ByteArray):Pu pG (xV (Instr.build 45 #[(0,(Value.string a0))])) (.agg #[(Value.string a0),(Value.int .i64 0)]):=Pu.ok fun w=>by kernel_rfl
theorem b7c(a0L:ByteArray)(a0M:Int)(w:World):(Instr.buildSlice 22 1 #[(0,(Value.agg #[(Value.string a0L),(Value.int .i64 a0M)]))]).run pG w=.ok (.slice (some ⟨w.heap.size,0,none⟩) 1 1) (w.alloc (.cells [(Value.string a0L),(Value.int .i64 a0M)].toArray 45)):=by kernel_rfl
theorem a6I(a0L:Int)(a0M:Int)(a7G:ByteArray)(a0_3a:Option Addr)(a0_3n a0_3c:Nat)(w:World):(Instr.buildSlice 39 1 #[(0,(Value.agg #[(Value.int .i64 a0L),(Value.int .i64 a0M),(Value.string a7G),(Value.slice a0_3a a0_3n a0_3c)]))]).run pG w=.ok (.slice (some ⟨w.heap.size,0,none⟩) 1 1) (w.alloc (.cells [(Value.int .i64 a0L),(Value.int .i64 a0M),(Value.string a7G),(Value.slice a0_3a a0_3n a0_3c)].toArray 41)):=by kernel_rfl
theorem a8X(a0:Int)(a1:ByteArray)(a2a:Option Addr)(a2n a2c:Nat):Pu pG (xV (Instr.build 49 #[(0,(Value.int .i64 a0)),(1,(Value.string a1)),(2,(Value.slice a2a a2n a2c))])) (.agg #[(Value.int .i64 a0),(Value.string a1),(Value.slice a2a a2n a2c),(Value.slice none 0 0),(Value.slice none 0 0),(Value.slice none 0 0)]):=Pu.ok fun w=>by kernel_rfl
abbrev c5(x:c6):List Value:=[(Value.int .i64 x.b7),(Value.string x.f4),(Value.slice x.d5.a x.d5.n x.d5.c),(Value.slice x.m8.a x.m8.n x.m8.c),(Value.slice x.B1.a x.B1.n x.B1.c),(Value.slice x.A8.a x.A8.n x.A8.c)]
theorem a2Q(x:c6):(c5 x).length=6:=rfl
theorem a2R(x:c6):(c5 x).all (·.oneCell')=true:=rfl
theorem a9x(a0L:Int)(a0M:ByteArray)(a0_2a:Option Addr)(a0_2n a0_2c:Nat)(a0_3a:Option Addr)(a0_3n a0_3c:Nat)(a0_4a:Option Addr)(a0_4n a0_4c:Nat)(a0_5a:Option Addr)(a0_5n a0_5c:Nat)(w:World):(Instr.buildSlice 23 1 #[(0,(Value.agg #[(Value.int .i64 a0L),(Value.string a0M),(Value.slice a0_2a a0_2n a0_2c),(Value.slice a0_3a a0_3n a0_3c),(Value.slice a0_4a a0_4n a0_4c),(Value.slice a0_5a a0_5n a0_5c)]))]).run pG w=.ok (.slice (some ⟨w.heap.size,0,none⟩) 1 1) (w.alloc (.cells [(Value.int .i64 a0L),(Value.string a0M),(Value.slice a0_2a a0_2n a0_2c),(Value.slice a0_3a a0_3n a0_3c),(Value.slice a0_4a a0_4n a0_4c),(Value.slice a0_5a a0_5n a0_5c)].toArray 49)):=by kernel_rfl
theorem a5p{g o:Nat}:Pu pG (xV (Instr.fieldAt 68 (.pointer (some ⟨g,o,none⟩)) 0)) (.pointer (some ⟨g,o+0,none⟩)):=Pu.ok fun w=>by kernel_rfl
theorem a8x(a0L:Int)(a0M:Int)(a7G:ByteArray)(a0_3a:Option Addr)(a0_3n a0_3c:Nat):Pu pG (xV (Instr.build 71 #[(0,(Value.agg #[(Value.int .i64 a0L),(Value.int .i64 a0M),(Value.string a7G),(Value.slice a0_3a a0_3n a0_3c)]))])) (.agg #[(Value.int .i64 a0L),(Value.int .i64 a0M),(Value.string a7G),(Value.slice a0_3a a0_3n a0_3c)]):=Pu.ok fun w=>by kernel_rfl
theorem a5J(x:D6):Pu pG (xV (Instr.makeInterface 71 (.agg #[(Value.int .i64 x.p9.b7),(Value.int .i64 x.p9.M8),(Value.string x.p9.f4),(Value.slice x.p9.v7.a x.p9.v7.n x.p9.v7.c)]))) (C7 (c8.B5 x)):=Pu.ok fun w=>rfl
abbrev o0(x:c8):List Value:=[(C7 x)]
theorem L9(x:c8):(o0 x).length=1:=rfl
theorem O4(x:c8):(o0 x).all (·.oneCell')=true:=b0e x
theorem a6J(a0:c8)(w:World):(Instr.buildSlice 72 1 #[(0,(C7 a0))]).run pG w=.ok (.slice (some ⟨w.heap.size,0,none⟩) 1 1) (w.alloc (.cells [(C7 a0)].toArray 91)):=by cases a0<;>kernel_rfl
theorem b2K(x y:Operand)(s:Sl):Pu pG (xBin .eql 22 x y (vs s) (.slice none 0 0)) (.bool s.a.isNone):=b4g _ _ _ s Tryd.underlying22
theorem b7d(w:World):(Instr.buildSlice 22 0 #[]).run pG w=.ok (.slice (some ⟨w.heap.size,0,none⟩) 0 0) (w.alloc (.cells [].toArray 45)):=by kernel_rfl
theorem b4k  : Pu pG (xV (Instr.build 52 #[])) (.agg #[(Value.int .i64 0),(Value.int .i64 0),(Value.int .i64 0)]):=Pu.ok fun w=>by kernel_rfl
theorem a6Y{g o:Nat}:Pu pG (xV (Instr.fieldAt 52 (.pointer (some ⟨g,o,none⟩)) 0)) (.pointer (some ⟨g,o+0,none⟩)):=Pu.ok fun w=>by kernel_rfl
theorem a8Y{g o:Nat}:Pu pG (xV (Instr.fieldAt 52 (.pointer (some ⟨g,o,none⟩)) 1)) (.pointer (some ⟨g,o+1,none⟩)):=Pu.ok fun w=>by kernel_rfl
theorem b2L{a0 a1 a2:Value}:Pu pG (xV (Instr.field 52 (.agg #[a0,a1,a2]) 2)) a2:=Pu.ok fun w=>by kernel_rfl
theorem a3O(a0:Int)(a1:ByteArray)(a4a:Option Addr)(a4n a4c:Nat)(a5a:Option Addr)(a5n a5c:Nat):Pu pG (xV (Instr.build 49 #[(0,(Value.int .i64 a0)),(1,(Value.string a1)),(4,(Value.slice a4a a4n a4c)),(5,(Value.slice a5a a5n a5c))])) (.agg #[(Value.int .i64 a0),(Value.string a1),(Value.slice none 0 0),(Value.slice none 0 0),(Value.slice a4a a4n a4c),(Value.slice a5a a5n a5c)]):=Pu.ok fun w=>by kernel_rfl
abbrev c9(x:b9):List Value:=[(Value.int .i64 x.b7),(Value.int .i64 x.fOp),(Value.slice x.d5.a x.d5.n x.d5.c),(Value.slice x.q6.a x.q6.n x.q6.c)]
theorem Y8(x:b9):(c9 x).length=4:=rfl
theorem Y9(x:b9):(c9 x).all (·.oneCell')=true:=rfl
theorem a9y(a0L:Int)(a0M:Int)(a0_2a:Option Addr)(a0_2n a0_2c:Nat)(a0_3a:Option Addr)(a0_3n a0_3c:Nat)(w:World):(Instr.buildSlice 47 1 #[(0,(Value.agg #[(Value.int .i64 a0L),(Value.int .i64 a0M),(Value.slice a0_2a a0_2n a0_2c),(Value.slice a0_3a a0_3n a0_3c)]))]).run pG w=.ok (.slice (some ⟨w.heap.size,0,none⟩) 1 1) (w.alloc (.cells [(Value.int .i64 a0L),(Value.int .i64 a0M),(Value.slice a0_2a a0_2n a0_2c),(Value.slice a0_3a a0_3n a0_3c)].toArray 77)):=by kernel_rfl
theorem b8a:Tryd.prog.info? 77=some ((Tryd.prog.info? 77).getD default):=by kernel_rfl
theorem b0I{E:Pan}{w0 w:World}{ps:Nat→Prop}{H0 H:Hp}{Fs:List Frag}{K:Value→World→Prop}{s:Sl}{xs:List b9}{F:Frag}{t2:Sl}{ys:List b9}{ks:List Bool}{ty:TypeId}(I:Inv w0 ps H0 H (F::Fs) w)(hr:RowL 77 4 c9 s xs F)(hs:SrcO w c9 t2 ys)(hb:(xs.length+ys.length)*65≤140737488355328)(h:∀(s':Sl)(F':Frag)(w':World),RowL 77 4 c9 s' (xs++ys) F'→Inv w0 ps H0 H (F'::Fs) w'→(∀k,k < w.heap.size→(∀p∈F,p.1≠k)→w'.heap[k]? = w.heap[k]?)→K (.slice s'.a s'.n s'.c) w'):opK pG E (xBuiltin .append #[47,47] ty ks [.slice s.a s.n s.c,.slice t2.a t2.n t2.c]) w K:=
  a7U (bytes:=64) Tryd.underlying47 b8a (z:=(Value.agg #[(Value.int .i64 0),(Value.int .i64 0),(Value.slice none 0 0),(Value.slice none 0 0)])) (by kernel_rfl) (by kernel_rfl) (by kernel_rfl) (by kernel_rfl) I hr hs hb h
theorem b8b:Tryd.prog.info? 41=some ((Tryd.prog.info? 41).getD default):=by kernel_rfl
theorem a8Z{E:Pan}{w0 w:World}{ps:Nat→Prop}{H0 H:Hp}{Fs:List Frag}{K:Value→World→Prop}{s:Sl}{xs:List b8}{F:Frag}{t2:Sl}{ys:List b8}{ks:List Bool}{ty:TypeId}(I:Inv w0 ps H0 H (F::Fs) w)(hr:RowL 41 4 c7 s xs F)(hs:SrcO w c7 t2 ys)(hb:(xs.length+ys.length)*57≤140737488355328)(h:∀(s':Sl)(F':Frag)(w':World),RowL 41 4 c7 s' (xs++ys) F'→Inv w0 ps H0 H (F'::Fs) w'→(∀k,k < w.heap.size→(∀p∈F,p.1≠k)→w'.heap[k]? = w.heap[k]?)→K (.slice s'.a s'.n s'.c) w'):opK pG E (xBuiltin .append #[39,39] ty ks [.slice s.a s.n s.c,.slice t2.a t2.n t2.c]) w K:=
  a7U (bytes:=56) Tryd.underlying39 b8b (z:=(Value.agg #[(Value.int .i64 0),(Value.int .i64 0),(Value.string ⟨#[]⟩),(Value.slice none 0 0)])) (by kernel_rfl) (by kernel_rfl) (by kernel_rfl) (by kernel_rfl) I hr hs hb h
theorem b8c:Tryd.prog.info? 49=some ((Tryd.prog.info? 49).getD default):=by kernel_rfl
theorem b4l{E:Pan}{w0 w:World}{ps:Nat→Prop}{H0 H:Hp}{Fs:List Frag}{K:Value→World→Prop}{s:Sl}{xs:List c6}{F:Frag}{t2:Sl}{ys:List c6}{ks:List Bool}{ty:TypeId}(I:Inv w0 ps H0 H (F::Fs) w)(hr:RowL 49 6 c5 s xs F)(hs:SrcO w c5 t2 ys)(hb:(xs.length+ys.length)*121≤140737488355328)(h:∀(s':Sl)(F':Frag)(w':World),RowL 49 6 c5 s' (xs++ys) F'→Inv w0 ps H0 H (F'::Fs) w'→(∀k,k < w.heap.size→(∀p∈F,p.1≠k)→w'.heap[k]? = w.heap[k]?)→K (.slice s'.a s'.n s'.c) w'):opK pG E (xBuiltin .append #[23,23] ty ks [.slice s.a s.n s.c,.slice t2.a t2.n t2.c]) w K:=
  a7U (bytes:=120) Tryd.underlying23 b8c (z:=(Value.agg #[(Value.int .i64 0),(Value.string ⟨#[]⟩),(Value.slice none 0 0),(Value.slice none 0 0),(Value.slice none 0 0),(Value.slice none 0 0)])) (by kernel_rfl) (by kernel_rfl) (by kernel_rfl) (by kernel_rfl) I hr hs hb h
theorem b0J(a0a:Option Addr)(a0n a0c:Nat)(a1a:Option Addr)(a1n a1c:Nat)(w:World):(Instr.buildSlice 105 2 #[(0,(Value.slice a0a a0n a0c)),(1,(Value.slice a1a a1n a1c))]).run pG w=.ok (.slice (some ⟨w.heap.size,0,none⟩) 2 2) (w.alloc (.cells [(Value.slice a0a a0n a0c),(Value.slice a1a a1n a1c)].toArray 72)):=by kernel_rfl
theorem b4m  : Pu pG (xV (Instr.build 68 #[])) (.agg #[(Value.int .i64 0),(Value.int .i64 0),(Value.int .i64 0),(Value.bool false),(Value.bool false),(Value.slice none 0 0)]):=Pu.ok fun w=>by kernel_rfl
abbrev L3(x:ByteArray):List Value:=[(Value.string x)]
theorem a8y(x:ByteArray):(L3 x).length=1:=rfl
theorem a8z(x:ByteArray):(L3 x).all (·.oneCell')=true:=rfl
theorem a6h(a:Option Addr)(n c:Nat):Pu pG (xBuiltin .len #[72] 3 [false] [.slice a n c]) (.int .i64 (n:Int)):=a1x Tryd.underlying72 a n c
theorem b5S{a:Option Addr}{g o:Nat}(ha:a=some ⟨g,o,none⟩)(len cap:Nat)(k:IntKind)(i:Int)(h0:0≤i)(h1:i < len):Pu pG (xV (Instr.indexAt 72 (.slice a len cap) (.int k i))) (.pointer (some ⟨g,o+i.toNat*1,none⟩)):=a2D Tryd.underlying72 Tryd.sizeOf91 ha len cap k i h0 h1
theorem a6Z{g o:Nat}:Pu pG (xV (Instr.fieldAt 68 (.pointer (some ⟨g,o,none⟩)) 3)) (.pointer (some ⟨g,o+3,none⟩)):=Pu.ok fun w=>by kernel_rfl
theorem a7a{g o:Nat}:Pu pG (xV (Instr.fieldAt 68 (.pointer (some ⟨g,o,none⟩)) 4)) (.pointer (some ⟨g,o+4,none⟩)):=Pu.ok fun w=>by kernel_rfl
theorem a7b{g o:Nat}:Pu pG (xV (Instr.fieldAt 68 (.pointer (some ⟨g,o,none⟩)) 5)) (.pointer (some ⟨g,o+5,none⟩)):=Pu.ok fun w=>by kernel_rfl
theorem b7e(a0:ByteArray)(w:World):(Instr.buildSlice 66 1 #[(0,(Value.string a0))]).run pG w=.ok (.slice (some ⟨w.heap.size,0,none⟩) 1 1) (w.alloc (.cells [(Value.string a0)].toArray 9)):=by kernel_rfl
theorem b9P:Tryd.prog.info? 9=some ((Tryd.prog.info? 9).getD default):=by kernel_rfl
theorem b8d{E:Pan}{w0 w:World}{ps:Nat→Prop}{H0 H:Hp}{Fs:List Frag}{K:Value→World→Prop}{s:Sl}{xs:List ByteArray}{F:Frag}{t2:Sl}{ys:List ByteArray}{ks:List Bool}{ty:TypeId}(I:Inv w0 ps H0 H (F::Fs) w)(hr:RowL 9 1 L3 s xs F)(hs:SrcO w L3 t2 ys)(hb:(xs.length+ys.length)*17≤140737488355328)(h:∀(s':Sl)(F':Frag)(w':World),RowL 9 1 L3 s' (xs++ys) F'→Inv w0 ps H0 H (F'::Fs) w'→(∀k,k < w.heap.size→(∀p∈F,p.1≠k)→w'.heap[k]? = w.heap[k]?)→K (.slice s'.a s'.n s'.c) w'):opK pG E (xBuiltin .append #[66,66] ty ks [.slice s.a s.n s.c,.slice t2.a t2.n t2.c]) w K:=
  a7U (bytes:=16) Tryd.underlying66 b9P (z:=(Value.string ⟨#[]⟩)) (by kernel_rfl) (by kernel_rfl) (by kernel_rfl) (by kernel_rfl) I hr hs hb h
theorem a7c(s:ByteArray):Pu pG (xBuiltin .len #[9] 3 [false] [.string s]) (.int .i64 (s.size:Int)):=b3o _ _ s Tryd.underlying9
theorem b0k(a0:Int)(a1:Int):Pu pG (xV (Instr.build 77 #[(0,(Value.int .i64 a0)),(1,(Value.int .i64 a1))])) (.agg #[(Value.int .i64 a0),(Value.int .i64 a1),(Value.slice none 0 0),(Value.slice none 0 0)]):=Pu.ok fun w=>by kernel_rfl
theorem a9a(a0:Int)(a1:Int)(a2:ByteArray):Pu pG (xV (Instr.build 41 #[(0,(Value.int .i64 a0)),(1,(Value.int .i64 a1)),(2,(Value.string a2))])) (.agg #[(Value.int .i64 a0),(Value.int .i64 a1),(Value.string a2),(Value.slice none 0 0)]):=Pu.ok fun w=>by kernel_rfl
theorem a9b(a:Option Addr)(n c:Nat):Pu pG (xBuiltin .len #[105] 3 [false] [.slice a n c]) (.int .i64 (n:Int)):=a1x Tryd.underlying105 a n c
theorem a9P{a:Option Addr}{g o:Nat}(ha:a=some ⟨g,o,none⟩)(len cap:Nat)(k:IntKind)(i:Int)(h0:0≤i)(h1:i < len):Pu pG (xV (Instr.indexAt 105 (.slice a len cap) (.int k i))) (.pointer (some ⟨g,o+i.toNat*1,none⟩)):=a2D Tryd.underlying105 Tryd.sizeOf72 ha len cap k i h0 h1
theorem b4n(s:ByteArray):Pu pG (xV (Instr.makeInterface 9 (.string s))) (.iface 9 (.string s)):=Pu.ok fun w=>by kernel_rfl
theorem b4o:Tryd.prog.info? 91=some ((Tryd.prog.info? 91).getD default):=by kernel_rfl
theorem a7H{E:Pan}{w0 w:World}{ps:Nat→Prop}{H0 H:Hp}{Fs:List Frag}{K:Value→World→Prop}{s:Sl}{xs:List c8}{F:Frag}{t2:Sl}{ys:List c8}{ks:List Bool}{ty:TypeId}(I:Inv w0 ps H0 H (F::Fs) w)(hr:RowL 91 1 o0 s xs F)(hs:SrcO w o0 t2 ys)(hb:(xs.length+ys.length)*17≤140737488355328)(h:∀(s':Sl)(F':Frag)(w':World),RowL 91 1 o0 s' (xs++ys) F'→Inv w0 ps H0 H (F'::Fs) w'→(∀k,k < w.heap.size→(∀p∈F,p.1≠k)→w'.heap[k]? = w.heap[k]?)→K (.slice s'.a s'.n s'.c) w'):opK pG E (xBuiltin .append #[72,72] ty ks [.slice s.a s.n s.c,.slice t2.a t2.n t2.c]) w K:=
  a7U (bytes:=16) Tryd.underlying72 b4o (z:=Value.nilIface) (by kernel_rfl) (by kernel_rfl) (by kernel_rfl) (by kernel_rfl) I hr hs hb h
theorem b0K(a0L:ByteArray)(a0M:Int):Pu pG (xV (Instr.build 108 #[(0,(Value.agg #[(Value.string a0L),(Value.int .i64 a0M)]))])) (.agg #[(Value.string a0L),(Value.int .i64 a0M)]):=Pu.ok fun w=>by kernel_rfl
theorem b0l(x:T2):Pu pG (xV (Instr.makeInterface 108 (.agg #[(Value.string x.X2.f4),(Value.int .i64 x.X2.X1)]))) (C7 (c8.J3 x)):=Pu.ok fun w=>rfl
theorem b0L(a0L:Int)(a0M:ByteArray)(a0_2a:Option Addr)(a0_2n a0_2c:Nat)(a0_3a:Option Addr)(a0_3n a0_3c:Nat)(a0_4a:Option Addr)(a0_4n a0_4c:Nat)(a0_5a:Option Addr)(a0_5n a0_5c:Nat):Pu pG (xV (Instr.build 110 #[(0,(Value.agg #[(Value.int .i64 a0L),(Value.string a0M),(Value.slice a0_2a a0_2n a0_2c),(Value.slice a0_3a a0_3n a0_3c),(Value.slice a0_4a a0_4n a0_4c),(Value.slice a0_5a a0_5n a0_5c)]))])) (.agg #[(Value.int .i64 a0L),(Value.string a0M),(Value.slice a0_2a a0_2n a0_2c),(Value.slice a0_3a a0_3n a0_3c),(Value.slice a0_4a a0_4n a0_4c),(Value.slice a0_5a a0_5n a0_5c)]):=Pu.ok fun w=>by kernel_rfl
theorem b0m(x:P0):Pu pG (xV (Instr.makeInterface 110 (.agg #[(Value.int .i64 x.d6.b7),(Value.string x.d6.f4),(Value.slice x.d6.d5.a x.d6.d5.n x.d6.d5.c),(Value.slice x.d6.m8.a x.d6.m8.n x.d6.m8.c),(Value.slice x.d6.B1.a x.d6.B1.n x.d6.B1.c),(Value.slice x.d6.A8.a x.d6.A8.n x.d6.A8.c)]))) (C7 (c8.D4 x)):=Pu.ok fun w=>rfl
theorem a6K(s:ByteArray)(k:IntKind)(i:Int)(h0:0≤i)(h1:i < s.size):Pu pG (xV (Instr.index 9 (.string s) (.int k i))) (.int .u8 ((s.get! i.toNat).toNat:Int)):=b0B _ s k i Tryd.underlying9 h0 h1
theorem a7I(k:IntKind)(n:Int):Pu pG (xV (convert 5 3 (.int k n))) (.int .i64 (IntKind.wrap .i64 n)):=Pu.ok fun w=>run_convert_int (P:=pG) (w:=w) 5 3 k n (by rw [Tryd.underlying5];rfl) Tryd.underlying3
theorem b0M(x:c8):Pu pG (xV (Instr.typeAssert (C7 x) 91 108 true)) (.tuple #[(Value.agg #[(Value.string ((((x.a1u)).X2).f4)),(Value.int .i64 ((((x.a1u)).X2).X1))]),.bool (x.a3E)]):=by
  cases x<;>exact Pu.ok fun w=>by kernel_rfl
theorem a6r{g o:Nat}:Pu pG (xV (Instr.fieldAt 108 (.pointer (some ⟨g,o,none⟩)) 0)) (.pointer (some ⟨g,o+0,none⟩)):=Pu.ok fun w=>by kernel_rfl
theorem b0N(x:c8):Pu pG (xV (Instr.typeAssert (C7 x) 91 110 true)) (.tuple #[(Value.agg #[(Value.int .i64 ((((x.q8)).d6).b7)),(Value.string ((((x.q8)).d6).f4)),(Value.slice ((((x.q8)).d6).d5).a ((((x.q8)).d6).d5).n ((((x.q8)).d6).d5).c),(Value.slice ((((x.q8)).d6).m8).a ((((x.q8)).d6).m8).n ((((x.q8)).d6).m8).c),(Value.slice ((((x.q8)).d6).B1).a ((((x.q8)).d6).B1).n ((((x.q8)).d6).B1).c),(Value.slice ((((x.q8)).d6).A8).a ((((x.q8)).d6).A8).n ((((x.q8)).d6).A8).c)]),.bool (x.a3F)]):=by
  cases x<;>exact Pu.ok fun w=>by kernel_rfl
theorem L4{g o:Nat}:Pu pG (xV (Instr.fieldAt 110 (.pointer (some ⟨g,o,none⟩)) 0)) (.pointer (some ⟨g,o+0,none⟩)):=Pu.ok fun w=>by kernel_rfl
theorem b2M(x:c8):Pu pG (xV (Instr.typeAssert (C7 x) 91 71 true)) (.tuple #[(Value.agg #[(Value.int .i64 ((((x.D2)).p9).b7)),(Value.int .i64 ((((x.D2)).p9).M8)),(Value.string ((((x.D2)).p9).f4)),(Value.slice ((((x.D2)).p9).v7).a ((((x.D2)).p9).v7).n ((((x.D2)).p9).v7).c)]),.bool (x.a3D)]):=by
  cases x<;>exact Pu.ok fun w=>by kernel_rfl
theorem a0E{g o:Nat}:Pu pG (xV (Instr.fieldAt 71 (.pointer (some ⟨g,o,none⟩)) 0)) (.pointer (some ⟨g,o+0,none⟩)):=Pu.ok fun w=>by kernel_rfl
theorem b5T{a:Option Addr}{g o:Nat}(ha:a=some ⟨g,o,none⟩)(len cap:Nat)(k:IntKind)(i:Int)(h0:0≤i)(h1:i < len):Pu pG (xV (Instr.indexAt 66 (.slice a len cap) (.int k i))) (.pointer (some ⟨g,o+i.toNat*1,none⟩)):=a2D Tryd.underlying66 Tryd.sizeOf9 ha len cap k i h0 h1
theorem a1v(a0:Int)(a1:Int):Pu pG (xV (Instr.build 145 #[(0,(Value.int .i64 a0)),(1,(Value.int .i64 a1))])) (.agg #[(Value.int .i64 a0),(Value.int .i64 a1)]):=Pu.ok fun w=>by kernel_rfl
theorem b7f(d:Nat)(a0 b0:Int)(a1 b1:Int)(w:World):(Op.equalIn (d+2) 145 (.agg #[(Value.int .i64 a0),(Value.int .i64 a1)]) (.agg #[(Value.int .i64 b0),(Value.int .i64 b1)])).run pG w=.ok (decide (a0=b0∧a1=b1)) w:=by
  have u3:=Tryd.underlying3
  have i3:=Tryd.isAgg3
  have s3:=Tryd.sizeOf3
  have hS:Tryd.prog.underlying 145=some (.struct (Tryd.prog.fieldsOf 145)):=by kernel_rfl
  rw [run_equalIn_agg w (d+1) 145 _ _ hS (by kernel_rfl)]
  simp only [Program.fieldsOf,Tryd.underlying145]
  go_simp
  try simp only [a8H]
  by_cases h0:a0=b0
  · by_cases h1:a1=b1
    · simp [h0,h1]
    · simp [h0,h1]
  · simp [h0]
theorem a4f(x y:Operand)(a0 b0:Int)(a1 b1:Int):Pu pG (xBin .eql 145 x y (.agg #[(Value.int .i64 a0),(Value.int .i64 a1)]) (.agg #[(Value.int .i64 b0),(Value.int .i64 b1)])) (.bool (decide (a0=b0∧a1=b1))):=by
  refine Pu.ok (s:=do eqGuard .eql 145 x y (.agg #[(Value.int .i64 a0),(Value.int .i64 a1)]) (.agg #[(Value.int .i64 b0),(Value.int .i64 b1)]);binOp .eql 145 (.agg #[(Value.int .i64 a0),(Value.int .i64 a1)]) (.agg #[(Value.int .i64 b0),(Value.int .i64 b1)])) fun w=>?_
  rw [Sem.run_bind,run_eqGuard_agg w _ _ _ _ _ _ (by kernel_rfl),Result.andThen_ok,run_eql_struct,show (10000:Nat)=9998+2 from rfl,b7f]
  rfl
theorem b3v  : Pu pG (xV (Instr.build 145 #[])) (.agg #[(Value.int .i64 0),(Value.int .i64 0)]):=Pu.ok fun w=>by kernel_rfl
theorem b5U(a0a:Option Addr)(a0n a0c:Nat)(a1a:Option Addr)(a1n a1c:Nat)(a2a:Option Addr)(a2n a2c:Nat)(a3a:Option Addr)(a3n a3c:Nat)(w:World):(Instr.buildSlice 105 4 #[(0,(Value.slice a0a a0n a0c)),(1,(Value.slice a1a a1n a1c)),(2,(Value.slice a2a a2n a2c)),(3,(Value.slice a3a a3n a3c))]).run pG w=.ok (.slice (some ⟨w.heap.size,0,none⟩) 4 4) (w.alloc (.cells [(Value.slice a0a a0n a0c),(Value.slice a1a a1n a1c),(Value.slice a2a a2n a2c),(Value.slice a3a a3n a3c)].toArray 72)):=by kernel_rfl
theorem b0O(a0L:Int)(a0M:Int)(a0_2a:Option Addr)(a0_2n a0_2c:Nat)(a0_3a:Option Addr)(a0_3n a0_3c:Nat):Pu pG (xV (Instr.build 149 #[(0,(Value.agg #[(Value.int .i64 a0L),(Value.int .i64 a0M),(Value.slice a0_2a a0_2n a0_2c),(Value.slice a0_3a a0_3n a0_3c)]))])) (.agg #[(Value.int .i64 a0L),(Value.int .i64 a0M),(Value.slice a0_2a a0_2n a0_2c),(Value.slice a0_3a a0_3n a0_3c)]):=Pu.ok fun w=>by kernel_rfl
theorem b0n(x:P1):Pu pG (xV (Instr.makeInterface 149 (.agg #[(Value.int .i64 x.m6.b7),(Value.int .i64 x.m6.fOp),(Value.slice x.m6.d5.a x.m6.d5.n x.m6.d5.c),(Value.slice x.m6.q6.a x.m6.q6.n x.m6.q6.c)]))) (C7 (c8.K1 x)):=Pu.ok fun w=>rfl
theorem a0F{g o:Nat}:Pu pG (xV (Instr.fieldAt 149 (.pointer (some ⟨g,o,none⟩)) 0)) (.pointer (some ⟨g,o+0,none⟩)):=Pu.ok fun w=>by kernel_rfl
theorem a3G(a0:Int)(a1:Int):Pu pG (xV (Instr.build 152 #[(0,(Value.int .i64 a0)),(1,(Value.int .i64 a1))])) (.agg #[(Value.int .i64 a0),(Value.int .i64 a1)]):=Pu.ok fun w=>by kernel_rfl
theorem b7g(d:Nat)(a0 b0:Int)(a1 b1:Int)(w:World):(Op.equalIn (d+2) 152 (.agg #[(Value.int .i64 a0),(Value.int .i64 a1)]) (.agg #[(Value.int .i64 b0),(Value.int .i64 b1)])).run pG w=.ok (decide (a0=b0∧a1=b1)) w:=by
  have u3:=Tryd.underlying3
  have i3:=Tryd.isAgg3
  have s3:=Tryd.sizeOf3
  have hS:Tryd.prog.underlying 152=some (.struct (Tryd.prog.fieldsOf 152)):=by kernel_rfl
  rw [run_equalIn_agg w (d+1) 152 _ _ hS (by kernel_rfl)]
  simp only [Program.fieldsOf,Tryd.underlying152]
  go_simp
  try simp only [a8H]
  by_cases h0:a0=b0
  · by_cases h1:a1=b1
    · simp [h0,h1]
    · simp [h0,h1]
  · simp [h0]
theorem a6i(x y:Operand)(a0 b0:Int)(a1 b1:Int):Pu pG (xBin .eql 152 x y (.agg #[(Value.int .i64 a0),(Value.int .i64 a1)]) (.agg #[(Value.int .i64 b0),(Value.int .i64 b1)])) (.bool (decide (a0=b0∧a1=b1))):=by
  refine Pu.ok (s:=do eqGuard .eql 152 x y (.agg #[(Value.int .i64 a0),(Value.int .i64 a1)]) (.agg #[(Value.int .i64 b0),(Value.int .i64 b1)]);binOp .eql 152 (.agg #[(Value.int .i64 a0),(Value.int .i64 a1)]) (.agg #[(Value.int .i64 b0),(Value.int .i64 b1)])) fun w=>?_
  rw [Sem.run_bind,run_eqGuard_agg w _ _ _ _ _ _ (by kernel_rfl),Result.andThen_ok,run_eql_struct,show (10000:Nat)=9998+2 from rfl,b7g]
  rfl
theorem b3w  : Pu pG (xV (Instr.build 152 #[])) (.agg #[(Value.int .i64 0),(Value.int .i64 0)]):=Pu.ok fun w=>by kernel_rfl
abbrev f5(x:d4):List Value:=[(Value.slice x.B3.a x.B3.n x.B3.c),(Value.slice x.M7.a x.M7.n x.M7.c)]
abbrev g9(x:a8):List Value:=[(Value.int .i64 x.fn),(Value.int .i64 x.fdepth),(Value.int .i64 x.fbad)]
abbrev f9(x:a7):List Value:=[(Value.bool x.fok),(Value.bool x.fnames)]
abbrev a6L(x:f8):List Value:=[(Value.int .i64 x.fnodes),(Value.int .i64 x.fdepth),(Value.int .i64 x.fe),(Value.bool x.fform),(Value.bool x.fnamed),(Value.slice x.fnames.a x.fnames.n x.fnames.c)]
end Go.Proofs.YtpgelfheccpejaaDoor
