/- Single operations at this program's types, and its structures; printed by lift.py. -/
import Derived.KernelRfl
import Derived.Laws.StructEq
import Derived.Laws.Cover2
import Derived.Test.YthklmeihgmcljaaGreatDoorzES5
import Derived.Test.YthklmeihgmcljaaGreatDoorzEGz
namespace Go.Proofs.YthklmeihgmcljaaGreatDoor
open Go.RowKit
set_option maxRecDepth 100000
set_option maxHeartbeats 2000000
structure l8 where
  N3:Sl
  a0L:Sl
structure b8 where
  B9:Int
  K8:Int
structure d9 where
  d8:Int
  G9:Int
  t7:ByteArray
  G4:Sl
structure f8 where
  d8:Int
  fOp:Int
  o4:Sl
  B0:Sl
structure b9 where
  d8:Int
  t7:ByteArray
  o4:Sl
  v8:Sl
  J5:Sl
  H7:Sl
structure a8 where
  fl:Sl
  fat:Int
  fbad:Int
  fpos:b8
structure b6 where
  d8:Int
  C3:ByteArray
  G9:Int
  fAt:b8
structure m7 where
  t7:ByteArray
  a1u:Int
structure C9 where
  f0:ByteArray
  f1:ByteArray
  f2:ByteArray
  f3:ByteArray
  f4:ByteArray
  f5:ByteArray
structure q9 where
  fnodes:Int
  fdepth:Int
  fe:Int
  fform:Bool
  fnamed:Bool
  fnames:Sl
structure b7 where
  fl:Sl
  fn:Int
structure d1I where
  fat:b8
  fe:Int
structure d7 where
  fn:Int
  fdepth:Int
  fbad:Int
structure d6 where
  fok:Bool
  fnames:Bool
structure S0 where
  z7:d9
structure a0b where
  z6:f8
structure j8 where
  fs:ByteArray
  fn:Int
  fat:b8
  fl:Sl
structure a0U where
  a2q:m7
structure a0d where
  p6:b9
structure a2Y where
  fsigns:Sl
  fkinds:Sl
  fpart:Value
structure R0 where
  f0:ByteArray
  f1:ByteArray
  f2:ByteArray
  f3:ByteArray
  f4:ByteArray
  f5:ByteArray
  f6:ByteArray
structure V2 where
  fexprs:Int
  fparts:Int
structure a0O where
  fexprs:Int
  fconds:Int
abbrev y6(x:j8)(s0:Sl):List Value:=[(Value.string x.fs),(vi x.fn),(vi x.fat.B9),(vi x.fat.K8),(vs s0)]
abbrev z8(x:j8):j8:=j8.mk x.fs x.fn x.fat (Sl.mk none 0 0)
abbrev a2w(x:q9)(s0:Sl):List Value:=[(vi x.fnodes),(vi x.fdepth),(vi x.fe),(Value.bool x.fform),(Value.bool x.fnamed),(vs s0)]
abbrev a1L(x:q9):q9:=q9.mk x.fnodes x.fdepth x.fe x.fform x.fnamed (Sl.mk none 0 0)
inductive k7 where
  | nil
  | M4 (x:S0)
  | S3 (x:a0b)
  | Q6 (x:a0U)
  | N6 (x:a0d)
def K6:k7→Value
  | .nil=>.nilIface
  | .M4 x=>.iface 141 (.agg #[(Value.int .i64 x.z7.d8),(Value.int .i64 x.z7.G9),(Value.string x.z7.t7),(Value.slice x.z7.G4.a x.z7.G4.n x.z7.G4.c)])
  | .S3 x=>.iface 146 (.agg #[(Value.int .i64 x.z6.d8),(Value.int .i64 x.z6.fOp),(Value.slice x.z6.o4.a x.z6.o4.n x.z6.o4.c),(Value.slice x.z6.B0.a x.z6.B0.n x.z6.B0.c)])
  | .Q6 x=>.iface 175 (.agg #[(Value.string x.a2q.t7),(Value.int .i64 x.a2q.a1u)])
  | .N6 x=>.iface 177 (.agg #[(Value.int .i64 x.p6.d8),(Value.string x.p6.t7),(Value.slice x.p6.o4.a x.p6.o4.n x.p6.o4.c),(Value.slice x.p6.v8.a x.p6.v8.n x.p6.v8.c),(Value.slice x.p6.J5.a x.p6.J5.n x.p6.J5.c),(Value.slice x.p6.H7.a x.p6.H7.n x.p6.H7.c)])
theorem b9v(x:k7):[K6 x].all (·.oneCell')=true:=by cases x<;>rfl
def k7.L0:k7→S0
  | .M4 x=>x
  | _=>(S0.mk (d9.mk 0 0 ⟨#[]⟩ (Sl.mk none 0 0)))
def k7.a8e:k7→Bool
  | .M4 _=>true
  | _=>false
def k7.a4e:k7→a0U
  | .Q6 x=>x
  | _=>(a0U.mk (m7.mk ⟨#[]⟩ 0))
def k7.a8f:k7→Bool
  | .Q6 _=>true
  | _=>false
def k7.A6:k7→a0d
  | .N6 x=>x
  | _=>(a0d.mk (b9.mk 0 ⟨#[]⟩ (Sl.mk none 0 0) (Sl.mk none 0 0) (Sl.mk none 0 0) (Sl.mk none 0 0)))
def k7.a8g:k7→Bool
  | .N6 _=>true
  | _=>false
theorem c4m(d:Nat)(a0 b0:Int)(a1 b1:Int)(w:World):(Op.equalIn (d+2) 28 (.agg #[(Value.int .i64 a0),(Value.int .i64 a1)]) (.agg #[(Value.int .i64 b0),(Value.int .i64 b1)])).run pG w=.ok (decide (a0=b0∧a1=b1)) w:=by
  have u3:=Tryz.underlying3
  have i3:=Tryz.isAgg3
  have s3:=Tryz.sizeOf3
  have hS:Tryz.prog.underlying 28=some (.struct (Tryz.prog.fieldsOf 28)):=by kernel_rfl
  rw [run_equalIn_agg w (d+1) 28 _ _ hS (by kernel_rfl)]
  simp only [Program.fieldsOf,Tryz.underlying28]
  go_simp
  try simp only [b4G]
  by_cases h0:a0=b0
  · by_cases h1:a1=b1
    · simp [h0,h1]
    · simp [h0,h1]
  · simp [h0]
theorem c6Q(x y:Operand)(a0 b0:Int)(a1 b1:Int):Pu pG (xBin .eql 28 x y (.agg #[(Value.int .i64 a0),(Value.int .i64 a1)]) (.agg #[(Value.int .i64 b0),(Value.int .i64 b1)])) (.bool (decide (a0=b0∧a1=b1))):=by
  refine Pu.ok (s:=do eqGuard .eql 28 x y (.agg #[(Value.int .i64 a0),(Value.int .i64 a1)]) (.agg #[(Value.int .i64 b0),(Value.int .i64 b1)]);binOp .eql 28 (.agg #[(Value.int .i64 a0),(Value.int .i64 a1)]) (.agg #[(Value.int .i64 b0),(Value.int .i64 b1)])) fun w=>?_
  rw [Sem.run_bind,run_eqGuard_agg w _ _ _ _ _ _ (by kernel_rfl),Result.andThen_ok,run_eql_struct,show (10000:Nat)=9998+2 from rfl,c4m]
  rfl
theorem c6R(x y:Operand)(a0 b0:Int)(a1 b1:Int):Pu pG (xBin .neq 28 x y (.agg #[(Value.int .i64 a0),(Value.int .i64 a1)]) (.agg #[(Value.int .i64 b0),(Value.int .i64 b1)])) (.bool (!decide (a0=b0∧a1=b1))):=by
  refine Pu.ok (s:=do eqGuard .neq 28 x y (.agg #[(Value.int .i64 a0),(Value.int .i64 a1)]) (.agg #[(Value.int .i64 b0),(Value.int .i64 b1)]);binOp .neq 28 (.agg #[(Value.int .i64 a0),(Value.int .i64 a1)]) (.agg #[(Value.int .i64 b0),(Value.int .i64 b1)])) fun w=>?_
  rw [Sem.run_bind,run_eqGuard_agg w _ _ _ _ _ _ (by kernel_rfl),Result.andThen_ok,run_neq_struct,show (10000:Nat)=9998+2 from rfl,c4m]
  rfl
theorem T5{g o:Nat}:Pu pG (xV (Instr.fieldAt 26 (.pointer (some ⟨g,o,none⟩)) 0)) (.pointer (some ⟨g,o+0,none⟩)):=Pu.ok fun w=>by kernel_rfl
theorem a6G(a:Option Addr)(n c:Nat):Pu pG (xBuiltin .len #[23] 3 [false] [.slice a n c]) (.int .i64 (n:Int)):=a1K Tryz.underlying23 a n c
theorem X8{g o:Nat}:Pu pG (xV (Instr.fieldAt 26 (.pointer (some ⟨g,o,none⟩)) 1)) (.pointer (some ⟨g,o+1,none⟩)):=Pu.ok fun w=>by kernel_rfl
theorem X1(a:Option Addr)(n c:Nat):Pu pG (xBuiltin .len #[24] 3 [false] [.slice a n c]) (.int .i64 (n:Int)):=a1K Tryz.underlying24 a n c
theorem b3G  : Pu pG (xV (Instr.build 28 #[])) (.agg #[(Value.int .i64 0),(Value.int .i64 0)]):=Pu.ok fun w=>by kernel_rfl
theorem X9(s:ByteArray):Pu pG (xBuiltin .len #[9] 3 [false] [.string s]) (.int .i64 (s.size:Int)):=c3l _ _ s Tryz.underlying9
theorem a7a(a0:Int)(a1:Int):Pu pG (xV (Instr.build 28 #[(0,(Value.int .i64 a0)),(1,(Value.int .i64 a1))])) (.agg #[(Value.int .i64 a0),(Value.int .i64 a1)]):=Pu.ok fun w=>by kernel_rfl
theorem a1M{g o:Nat}:Pu pG (xV (Instr.fieldAt 40 (.pointer (some ⟨g,o,none⟩)) 0)) (.pointer (some ⟨g,o+0,none⟩)):=Pu.ok fun w=>by kernel_rfl
theorem a0V{g o:Nat}:Pu pG (xV (Instr.fieldAt 40 (.pointer (some ⟨g,o,none⟩)) 3)) (.pointer (some ⟨g,o+3,none⟩)):=Pu.ok fun w=>by kernel_rfl
theorem O4(a:Option Addr)(n c:Nat):Pu pG (xBuiltin .len #[38] 3 [false] [.slice a n c]) (.int .i64 (n:Int)):=a1K Tryz.underlying38 a n c
theorem a1N{a:Option Addr}{g o:Nat}(ha:a=some ⟨g,o,none⟩)(len cap:Nat)(k:IntKind)(i:Int)(h0:0≤i)(h1:i < len):Pu pG (xV (Instr.indexAt 38 (.slice a len cap) (.int k i))) (.pointer (some ⟨g,o+i.toNat*4,none⟩)):=a3I Tryz.underlying38 Tryz.sizeOf40 ha len cap k i h0 h1
theorem a8h{g o:Nat}:Pu pG (xV (Instr.fieldAt 40 (.pointer (some ⟨g,o,none⟩)) 1)) (.pointer (some ⟨g,o+1,none⟩)):=Pu.ok fun w=>by kernel_rfl
theorem a8i{g o:Nat}:Pu pG (xV (Instr.fieldAt 49 (.pointer (some ⟨g,o,none⟩)) 0)) (.pointer (some ⟨g,o+0,none⟩)):=Pu.ok fun w=>by kernel_rfl
theorem a0W{g o:Nat}:Pu pG (xV (Instr.fieldAt 49 (.pointer (some ⟨g,o,none⟩)) 3)) (.pointer (some ⟨g,o+3,none⟩)):=Pu.ok fun w=>by kernel_rfl
theorem a0r(a:Option Addr)(n c:Nat):Pu pG (xBuiltin .len #[47] 3 [false] [.slice a n c]) (.int .i64 (n:Int)):=a1K Tryz.underlying47 a n c
theorem a0X{g o:Nat}:Pu pG (xV (Instr.fieldAt 49 (.pointer (some ⟨g,o,none⟩)) 2)) (.pointer (some ⟨g,o+2,none⟩)):=Pu.ok fun w=>by kernel_rfl
theorem a4l{a:Option Addr}{g o:Nat}(ha:a=some ⟨g,o,none⟩)(len cap:Nat)(k:IntKind)(i:Int)(h0:0≤i)(h1:i < len):Pu pG (xV (Instr.indexAt 24 (.slice a len cap) (.int k i))) (.pointer (some ⟨g,o+i.toNat*6,none⟩)):=a3I Tryz.underlying24 Tryz.sizeOf56 ha len cap k i h0 h1
theorem M7{g o:Nat}:Pu pG (xV (Instr.fieldAt 56 (.pointer (some ⟨g,o,none⟩)) 2)) (.pointer (some ⟨g,o+2,none⟩)):=Pu.ok fun w=>by kernel_rfl
theorem b5G  : Pu pG (xV (Instr.build 26 #[])) (.agg #[(Value.slice none 0 0),(Value.slice none 0 0)]):=Pu.ok fun w=>by kernel_rfl
theorem c1j(a0a:Option Addr)(a0n a0c:Nat):Pu pG (xV (Instr.build 66 #[(0,(Value.slice a0a a0n a0c))])) (.agg #[(Value.slice a0a a0n a0c),(Value.int .i64 0),(Value.int .i64 0),(Value.int .i64 0),(Value.int .i64 0)]):=Pu.ok fun w=>by kernel_rfl
theorem V4{g o:Nat}:Pu pG (xV (Instr.fieldAt 66 (.pointer (some ⟨g,o,none⟩)) 2)) (.pointer (some ⟨g,o+2,none⟩)):=Pu.ok fun w=>by kernel_rfl
theorem a9S{g o:Nat}:Pu pG (xV (Instr.fieldAt 66 (.pointer (some ⟨g,o,none⟩)) 0)) (.pointer (some ⟨g,o+0,none⟩)):=Pu.ok fun w=>by kernel_rfl
theorem T6{g o:Nat}:Pu pG (xV (Instr.fieldAt 66 (.pointer (some ⟨g,o,none⟩)) 1)) (.pointer (some ⟨g,o+1,none⟩)):=Pu.ok fun w=>by kernel_rfl
theorem b4I{a:Option Addr}{g o:Nat}(ha:a=some ⟨g,o,none⟩)(len cap:Nat)(k:IntKind)(i:Int)(h0:0≤i)(h1:i < len):Pu pG (xV (Instr.indexAt 61 (.slice a len cap) (.int k i))) (.pointer (some ⟨g,o+i.toNat*5,none⟩)):=a3I Tryz.underlying61 Tryz.sizeOf103 ha len cap k i h0 h1
theorem W6{g o:Nat}:Pu pG (xV (Instr.fieldAt 103 (.pointer (some ⟨g,o,none⟩)) 0)) (.pointer (some ⟨g,o+0,none⟩)):=Pu.ok fun w=>by kernel_rfl
theorem Q7{g o:Nat}:Pu pG (xV (Instr.fieldAt 103 (.pointer (some ⟨g,o,none⟩)) 1)) (.pointer (some ⟨g,o+1,none⟩)):=Pu.ok fun w=>by kernel_rfl
theorem b2Q{a0 a1 a2 a3 a4:Value}:Pu pG (xV (Instr.field 103 (.agg #[a0,a1,a2,a3,a4]) 3)) (.agg #[a3,a4]):=Pu.ok fun w=>by kernel_rfl
theorem b7y{g o:Nat}:Pu pG (xV (Instr.fieldAt 66 (.pointer (some ⟨g,o,none⟩)) 3)) (.pointer (some ⟨g,o+3,none⟩)):=Pu.ok fun w=>by kernel_rfl
theorem b6R(a0:ByteArray):Pu pG (xV (Instr.build 68 #[(0,(Value.string a0))])) (.agg #[(Value.string a0),(Value.int .i64 0)]):=Pu.ok fun w=>by kernel_rfl
theorem a3X{g o:Nat}:Pu pG (xV (Instr.fieldAt 103 (.pointer (some ⟨g,o,none⟩)) 2)) (.pointer (some ⟨g,o+2,none⟩)):=Pu.ok fun w=>by kernel_rfl
theorem a8j{g o:Nat}:Pu pG (xV (Instr.fieldAt 68 (.pointer (some ⟨g,o,none⟩)) 1)) (.pointer (some ⟨g,o+1,none⟩)):=Pu.ok fun w=>by kernel_rfl
abbrev u5(x:m7):List Value:=[(Value.string x.t7),(Value.int .i64 x.a1u)]
theorem a8U(x:m7):(u5 x).length=2:=rfl
theorem a8V(x:m7):(u5 x).all (·.oneCell')=true:=rfl
theorem c1I(a0s:ByteArray)(a0t:Int)(w:World):(Instr.buildSlice 23 1 #[(0,(Value.agg #[(Value.string a0s),(Value.int .i64 a0t)]))]).run pG w=.ok (.slice (some ⟨w.heap.size,0,none⟩) 1 1) (w.alloc (.cells [(Value.string a0s),(Value.int .i64 a0t)].toArray 68)):=by kernel_rfl
theorem d1J:Tryz.prog.info? 68=some ((Tryz.prog.info? 68).getD default):=by kernel_rfl
theorem c4n{E:Pan}{w0 w:World}{ps:Nat→Prop}{H0 H:Hp}{Fs:List Frag}{K:Value→World→Prop}{s:Sl}{xs:List m7}{F:Frag}{t2:Sl}{ys:List m7}{ks:List Bool}{ty:TypeId}(I:Inv w0 ps H0 H (F::Fs) w)(hr:RowL 68 2 u5 s xs F)(hs:SrcO w u5 t2 ys)(hb:(xs.length+ys.length)*25≤140737488355328)(h:∀(s':Sl)(F':Frag)(w':World),RowL 68 2 u5 s' (xs++ys) F'→Inv w0 ps H0 H (F'::Fs) w'→(∀k,k < w.heap.size→(∀p∈F,p.1≠k)→w'.heap[k]? = w.heap[k]?)→K (.slice s'.a s'.n s'.c) w'):opK pG E (xBuiltin .append #[23,23] ty ks [.slice s.a s.n s.c,.slice t2.a t2.n t2.c]) w K:=
  b6b (bytes:=24) Tryz.underlying23 d1J (z:=(Value.agg #[(Value.string ⟨#[]⟩),(Value.int .i64 0)])) (by kernel_rfl) (by kernel_rfl) (by kernel_rfl) (by kernel_rfl) I hr hs hb h
theorem a6p{a0 a1 a2 a3 a4:Value}:Pu pG (xV (Instr.field 103 (.agg #[a0,a1,a2,a3,a4]) 0)) a0:=Pu.ok fun w=>by kernel_rfl
theorem c1k(a0:Int):Pu pG (xV (Instr.build 56 #[(0,(Value.int .i64 a0))])) (.agg #[(Value.int .i64 a0),(Value.string ⟨#[]⟩),(Value.slice none 0 0),(Value.slice none 0 0),(Value.slice none 0 0),(Value.slice none 0 0)]):=Pu.ok fun w=>by kernel_rfl
theorem b3H  : Pu pG (xV (Instr.build 49 #[])) (.agg #[(Value.int .i64 0),(Value.int .i64 0),(Value.slice none 0 0),(Value.slice none 0 0)]):=Pu.ok fun w=>by kernel_rfl
theorem b1o(a0:Int):Pu pG (xV (Instr.build 49 #[(0,(Value.int .i64 a0))])) (.agg #[(Value.int .i64 a0),(Value.int .i64 0),(Value.slice none 0 0),(Value.slice none 0 0)]):=Pu.ok fun w=>by kernel_rfl
abbrev i7(x:f8):List Value:=[(Value.int .i64 x.d8),(Value.int .i64 x.fOp),(Value.slice x.o4.a x.o4.n x.o4.c),(Value.slice x.B0.a x.B0.n x.B0.c)]
theorem N4(x:f8):(i7 x).length=4:=rfl
theorem N5(x:f8):(i7 x).all (·.oneCell')=true:=rfl
theorem a7q(a0s:Int)(a0t:Int)(a0_2a:Option Addr)(a0_2n a0_2c:Nat)(a0_3a:Option Addr)(a0_3n a0_3c:Nat)(w:World):(Instr.buildSlice 47 1 #[(0,(Value.agg #[(Value.int .i64 a0s),(Value.int .i64 a0t),(Value.slice a0_2a a0_2n a0_2c),(Value.slice a0_3a a0_3n a0_3c)]))]).run pG w=.ok (.slice (some ⟨w.heap.size,0,none⟩) 1 1) (w.alloc (.cells [(Value.int .i64 a0s),(Value.int .i64 a0t),(Value.slice a0_2a a0_2n a0_2c),(Value.slice a0_3a a0_3n a0_3c)].toArray 49)):=by kernel_rfl
theorem a7b(a0:Int)(a3a:Option Addr)(a3n a3c:Nat):Pu pG (xV (Instr.build 49 #[(0,(Value.int .i64 a0)),(3,(Value.slice a3a a3n a3c))])) (.agg #[(Value.int .i64 a0),(Value.int .i64 0),(Value.slice none 0 0),(Value.slice a3a a3n a3c)]):=Pu.ok fun w=>by kernel_rfl
theorem b5H  : Pu pG (xV (Instr.build 40 #[])) (.agg #[(Value.int .i64 0),(Value.int .i64 0),(Value.string ⟨#[]⟩),(Value.slice none 0 0)]):=Pu.ok fun w=>by kernel_rfl
abbrev g7(x:d9):List Value:=[(Value.int .i64 x.d8),(Value.int .i64 x.G9),(Value.string x.t7),(Value.slice x.G4.a x.G4.n x.G4.c)]
theorem F6(x:d9):(g7 x).length=4:=rfl
theorem F7(x:d9):(g7 x).all (·.oneCell')=true:=rfl
theorem a9m(a0s:Int)(a0t:Int)(b2R:ByteArray)(a0_3a:Option Addr)(a0_3n a0_3c:Nat)(w:World):(Instr.buildSlice 38 1 #[(0,(Value.agg #[(Value.int .i64 a0s),(Value.int .i64 a0t),(Value.string b2R),(Value.slice a0_3a a0_3n a0_3c)]))]).run pG w=.ok (.slice (some ⟨w.heap.size,0,none⟩) 1 1) (w.alloc (.cells [(Value.int .i64 a0s),(Value.int .i64 a0t),(Value.string b2R),(Value.slice a0_3a a0_3n a0_3c)].toArray 40)):=by kernel_rfl
theorem a7c(a0:Int)(a3a:Option Addr)(a3n a3c:Nat):Pu pG (xV (Instr.build 40 #[(0,(Value.int .i64 a0)),(3,(Value.slice a3a a3n a3c))])) (.agg #[(Value.int .i64 a0),(Value.int .i64 0),(Value.string ⟨#[]⟩),(Value.slice a3a a3n a3c)]):=Pu.ok fun w=>by kernel_rfl
theorem b6S(a0:Int):Pu pG (xV (Instr.build 40 #[(0,(Value.int .i64 a0))])) (.agg #[(Value.int .i64 a0),(Value.int .i64 0),(Value.string ⟨#[]⟩),(Value.slice none 0 0)]):=Pu.ok fun w=>by kernel_rfl
theorem b5p(a0:Int)(a1:Int):Pu pG (xV (Instr.build 40 #[(0,(Value.int .i64 a0)),(1,(Value.int .i64 a1))])) (.agg #[(Value.int .i64 a0),(Value.int .i64 a1),(Value.string ⟨#[]⟩),(Value.slice none 0 0)]):=Pu.ok fun w=>by kernel_rfl
theorem b3I(a0:Int)(a2:ByteArray)(a3a:Option Addr)(a3n a3c:Nat):Pu pG (xV (Instr.build 40 #[(0,(Value.int .i64 a0)),(2,(Value.string a2)),(3,(Value.slice a3a a3n a3c))])) (.agg #[(Value.int .i64 a0),(Value.int .i64 0),(Value.string a2),(Value.slice a3a a3n a3c)]):=Pu.ok fun w=>by kernel_rfl
theorem b5q(a0:Int)(a2:ByteArray):Pu pG (xV (Instr.build 40 #[(0,(Value.int .i64 a0)),(2,(Value.string a2))])) (.agg #[(Value.int .i64 a0),(Value.int .i64 0),(Value.string a2),(Value.slice none 0 0)]):=Pu.ok fun w=>by kernel_rfl
theorem b4k(a0s:Int)(a0t:Int)(b2R:ByteArray)(a0_3a:Option Addr)(a0_3n a0_3c:Nat)(b9W:Int)(b9X:Int)(d1K:ByteArray)(a1_3a:Option Addr)(a1_3n a1_3c:Nat)(w:World):(Instr.buildSlice 38 2 #[(0,(Value.agg #[(Value.int .i64 a0s),(Value.int .i64 a0t),(Value.string b2R),(Value.slice a0_3a a0_3n a0_3c)])),(1,(Value.agg #[(Value.int .i64 b9W),(Value.int .i64 b9X),(Value.string d1K),(Value.slice a1_3a a1_3n a1_3c)]))]).run pG w=.ok (.slice (some ⟨w.heap.size,0,none⟩) 2 2) (w.alloc (.cells [(Value.int .i64 a0s),(Value.int .i64 a0t),(Value.string b2R),(Value.slice a0_3a a0_3n a0_3c),(Value.int .i64 b9W),(Value.int .i64 b9X),(Value.string d1K),(Value.slice a1_3a a1_3n a1_3c)].toArray 40)):=by kernel_rfl
theorem a8J(a0 a1 a2 a3 a4 a5:ByteArray):Pu pG (xV (Instr.build 203 #[(0,.string a0),(1,.string a1),(2,.string a2),(3,.string a3),(4,.string a4),(5,.string a5)])) (.agg #[.string a0,.string a1,.string a2,.string a3,.string a4,.string a5]):=Pu.ok fun w=>by kernel_rfl
theorem c3r{g o:Nat}(k:IntKind)(i:Int)(h0:0≤i)(h1:i < 6):Pu pG (xV (Instr.indexAt 203 (.pointer (some ⟨g,o,none⟩)) (.int k i))) (.pointer (some ⟨g,o+i.toNat*1,none⟩)):=c1i Tryz.underlying203 Tryz.sizeOf9 k i h0 h1
theorem b3J(a0:Int)(a1:Int)(a2a:Option Addr)(a2n a2c:Nat):Pu pG (xV (Instr.build 49 #[(0,(Value.int .i64 a0)),(1,(Value.int .i64 a1)),(2,(Value.slice a2a a2n a2c))])) (.agg #[(Value.int .i64 a0),(Value.int .i64 a1),(Value.slice a2a a2n a2c),(Value.slice none 0 0)]):=Pu.ok fun w=>by kernel_rfl
theorem b8l(a0s:Int)(a0t:Int)(a0_2a:Option Addr)(a0_2n a0_2c:Nat)(a0_3a:Option Addr)(a0_3n a0_3c:Nat)(b9W:Int)(b9X:Int)(a1_2a:Option Addr)(a1_2n a1_2c:Nat)(a1_3a:Option Addr)(a1_3n a1_3c:Nat)(w:World):(Instr.buildSlice 47 2 #[(0,(Value.agg #[(Value.int .i64 a0s),(Value.int .i64 a0t),(Value.slice a0_2a a0_2n a0_2c),(Value.slice a0_3a a0_3n a0_3c)])),(1,(Value.agg #[(Value.int .i64 b9W),(Value.int .i64 b9X),(Value.slice a1_2a a1_2n a1_2c),(Value.slice a1_3a a1_3n a1_3c)]))]).run pG w=.ok (.slice (some ⟨w.heap.size,0,none⟩) 2 2) (w.alloc (.cells [(Value.int .i64 a0s),(Value.int .i64 a0t),(Value.slice a0_2a a0_2n a0_2c),(Value.slice a0_3a a0_3n a0_3c),(Value.int .i64 b9W),(Value.int .i64 b9X),(Value.slice a1_2a a1_2n a1_2c),(Value.slice a1_3a a1_3n a1_3c)].toArray 49)):=by kernel_rfl
theorem b5r(a0:Int)(a3a:Option Addr)(a3n a3c:Nat):Pu pG (xV (Instr.build 56 #[(0,(Value.int .i64 a0)),(3,(Value.slice a3a a3n a3c))])) (.agg #[(Value.int .i64 a0),(Value.string ⟨#[]⟩),(Value.slice none 0 0),(Value.slice a3a a3n a3c),(Value.slice none 0 0),(Value.slice none 0 0)]):=Pu.ok fun w=>by kernel_rfl
abbrev m6(x:b9):List Value:=[(Value.int .i64 x.d8),(Value.string x.t7),(Value.slice x.o4.a x.o4.n x.o4.c),(Value.slice x.v8.a x.v8.n x.v8.c),(Value.slice x.J5.a x.J5.n x.J5.c),(Value.slice x.H7.a x.H7.n x.H7.c)]
theorem a1Z(x:b9):(m6 x).length=6:=rfl
theorem a2b(x:b9):(m6 x).all (·.oneCell')=true:=rfl
theorem b6d(a0s:Int)(a0t:ByteArray)(a0_2a:Option Addr)(a0_2n a0_2c:Nat)(a0_3a:Option Addr)(a0_3n a0_3c:Nat)(a0_4a:Option Addr)(a0_4n a0_4c:Nat)(a0_5a:Option Addr)(a0_5n a0_5c:Nat)(w:World):(Instr.buildSlice 24 1 #[(0,(Value.agg #[(Value.int .i64 a0s),(Value.string a0t),(Value.slice a0_2a a0_2n a0_2c),(Value.slice a0_3a a0_3n a0_3c),(Value.slice a0_4a a0_4n a0_4c),(Value.slice a0_5a a0_5n a0_5c)]))]).run pG w=.ok (.slice (some ⟨w.heap.size,0,none⟩) 1 1) (w.alloc (.cells [(Value.int .i64 a0s),(Value.string a0t),(Value.slice a0_2a a0_2n a0_2c),(Value.slice a0_3a a0_3n a0_3c),(Value.slice a0_4a a0_4n a0_4c),(Value.slice a0_5a a0_5n a0_5c)].toArray 56)):=by kernel_rfl
theorem d1L:Tryz.prog.info? 56=some ((Tryz.prog.info? 56).getD default):=by kernel_rfl
theorem b7z{E:Pan}{w0 w:World}{ps:Nat→Prop}{H0 H:Hp}{Fs:List Frag}{K:Value→World→Prop}{s:Sl}{xs:List b9}{F:Frag}{t2:Sl}{ys:List b9}{ks:List Bool}{ty:TypeId}(I:Inv w0 ps H0 H (F::Fs) w)(hr:RowL 56 6 m6 s xs F)(hs:SrcO w m6 t2 ys)(hb:(xs.length+ys.length)*121≤140737488355328)(h:∀(s':Sl)(F':Frag)(w':World),RowL 56 6 m6 s' (xs++ys) F'→Inv w0 ps H0 H (F'::Fs) w'→(∀k,k < w.heap.size→(∀p∈F,p.1≠k)→w'.heap[k]? = w.heap[k]?)→K (.slice s'.a s'.n s'.c) w'):opK pG E (xBuiltin .append #[24,24] ty ks [.slice s.a s.n s.c,.slice t2.a t2.n t2.c]) w K:=
  b6b (bytes:=120) Tryz.underlying24 d1L (z:=(Value.agg #[(Value.int .i64 0),(Value.string ⟨#[]⟩),(Value.slice none 0 0),(Value.slice none 0 0),(Value.slice none 0 0),(Value.slice none 0 0)])) (by kernel_rfl) (by kernel_rfl) (by kernel_rfl) (by kernel_rfl) I hr hs hb h
theorem b3K(a0:Int)(a3a:Option Addr)(a3n a3c:Nat)(a4a:Option Addr)(a4n a4c:Nat):Pu pG (xV (Instr.build 56 #[(0,(Value.int .i64 a0)),(3,(Value.slice a3a a3n a3c)),(4,(Value.slice a4a a4n a4c))])) (.agg #[(Value.int .i64 a0),(Value.string ⟨#[]⟩),(Value.slice none 0 0),(Value.slice a3a a3n a3c),(Value.slice a4a a4n a4c),(Value.slice none 0 0)]):=Pu.ok fun w=>by kernel_rfl
theorem a0Y{g o:Nat}:Pu pG (xV (Instr.fieldAt 56 (.pointer (some ⟨g,o,none⟩)) 4)) (.pointer (some ⟨g,o+4,none⟩)):=Pu.ok fun w=>by kernel_rfl
theorem a0Z{g o:Nat}:Pu pG (xV (Instr.fieldAt 56 (.pointer (some ⟨g,o,none⟩)) 5)) (.pointer (some ⟨g,o+5,none⟩)):=Pu.ok fun w=>by kernel_rfl
theorem b9w(a0:Int)(a1:ByteArray):Pu pG (xV (Instr.build 56 #[(0,(Value.int .i64 a0)),(1,(Value.string a1))])) (.agg #[(Value.int .i64 a0),(Value.string a1),(Value.slice none 0 0),(Value.slice none 0 0),(Value.slice none 0 0),(Value.slice none 0 0)]):=Pu.ok fun w=>by kernel_rfl
theorem Q2{g o:Nat}:Pu pG (xV (Instr.fieldAt 56 (.pointer (some ⟨g,o,none⟩)) 0)) (.pointer (some ⟨g,o+0,none⟩)):=Pu.ok fun w=>by kernel_rfl
theorem d1M:Tryz.prog.info? 40=some ((Tryz.prog.info? 40).getD default):=by kernel_rfl
theorem b7A{E:Pan}{w0 w:World}{ps:Nat→Prop}{H0 H:Hp}{Fs:List Frag}{K:Value→World→Prop}{s:Sl}{xs:List d9}{F:Frag}{t2:Sl}{ys:List d9}{ks:List Bool}{ty:TypeId}(I:Inv w0 ps H0 H (F::Fs) w)(hr:RowL 40 4 g7 s xs F)(hs:SrcO w g7 t2 ys)(hb:(xs.length+ys.length)*57≤140737488355328)(h:∀(s':Sl)(F':Frag)(w':World),RowL 40 4 g7 s' (xs++ys) F'→Inv w0 ps H0 H (F'::Fs) w'→(∀k,k < w.heap.size→(∀p∈F,p.1≠k)→w'.heap[k]? = w.heap[k]?)→K (.slice s'.a s'.n s'.c) w'):opK pG E (xBuiltin .append #[38,38] ty ks [.slice s.a s.n s.c,.slice t2.a t2.n t2.c]) w K:=
  b6b (bytes:=56) Tryz.underlying38 d1M (z:=(Value.agg #[(Value.int .i64 0),(Value.int .i64 0),(Value.string ⟨#[]⟩),(Value.slice none 0 0)])) (by kernel_rfl) (by kernel_rfl) (by kernel_rfl) (by kernel_rfl) I hr hs hb h
theorem b8M(a:Option Addr)(n c:Nat):Pu pG (xBuiltin .len #[61] 3 [false] [.slice a n c]) (.int .i64 (n:Int)):=a1K Tryz.underlying61 a n c
theorem b1p{g o:Nat}:Pu pG (xV (Instr.fieldAt 103 (.pointer (some ⟨g,o,none⟩)) 3)) (.pointer (some ⟨g,o+3,none⟩)):=Pu.ok fun w=>by kernel_rfl
theorem b0O{a:Option Addr}{g o:Nat}(ha:a=some ⟨g,o,none⟩)(len cap:Nat)(k:IntKind)(i:Int)(h0:0≤i)(h1:i < len):Pu pG (xV (Instr.indexAt 23 (.slice a len cap) (.int k i))) (.pointer (some ⟨g,o+i.toNat*2,none⟩)):=a3I Tryz.underlying23 Tryz.sizeOf68 ha len cap k i h0 h1
theorem d1N(d:Nat)(a0 b0:ByteArray)(a1 b1:Int)(w:World):(Op.equalIn (d+2) 68 (.agg #[(Value.string a0),(Value.int .i64 a1)]) (.agg #[(Value.string b0),(Value.int .i64 b1)])).run pG w=.ok (decide (a0=b0∧a1=b1)) w:=by
  have u9:=Tryz.underlying9
  have i9:=Tryz.isAgg9
  have s9:=Tryz.sizeOf9
  have u3:=Tryz.underlying3
  have i3:=Tryz.isAgg3
  have s3:=Tryz.sizeOf3
  have hS:Tryz.prog.underlying 68=some (.struct (Tryz.prog.fieldsOf 68)):=by kernel_rfl
  rw [run_equalIn_agg w (d+1) 68 _ _ hS (by kernel_rfl)]
  simp only [Program.fieldsOf,Tryz.underlying68]
  go_simp
  try simp only [b4G]
  by_cases h0:a0=b0
  · by_cases h1:a1=b1
    · simp [h0,h1]
    · simp [h0,h1]
  · simp [h0]
theorem c6S(x y:Operand)(a0 b0:ByteArray)(a1 b1:Int):Pu pG (xBin .neq 68 x y (.agg #[(Value.string a0),(Value.int .i64 a1)]) (.agg #[(Value.string b0),(Value.int .i64 b1)])) (.bool (!decide (a0=b0∧a1=b1))):=by
  refine Pu.ok (s:=do eqGuard .neq 68 x y (.agg #[(Value.string a0),(Value.int .i64 a1)]) (.agg #[(Value.string b0),(Value.int .i64 b1)]);binOp .neq 68 (.agg #[(Value.string a0),(Value.int .i64 a1)]) (.agg #[(Value.string b0),(Value.int .i64 b1)])) fun w=>?_
  rw [Sem.run_bind,run_eqGuard_agg w _ _ _ _ _ _ (by kernel_rfl),Result.andThen_ok,run_neq_struct,show (10000:Nat)=9998+2 from rfl,d1N]
  rfl
theorem a9T{g o:Nat}:Pu pG (xV (Instr.fieldAt 79 (.pointer (some ⟨g,o,none⟩)) 2)) (.pointer (some ⟨g,o+2,none⟩)):=Pu.ok fun w=>by kernel_rfl
theorem a9U{g o:Nat}:Pu pG (xV (Instr.fieldAt 40 (.pointer (some ⟨g,o,none⟩)) 2)) (.pointer (some ⟨g,o+2,none⟩)):=Pu.ok fun w=>by kernel_rfl
theorem a5A{g o:Nat}:Pu pG (xV (Instr.fieldAt 49 (.pointer (some ⟨g,o,none⟩)) 1)) (.pointer (some ⟨g,o+1,none⟩)):=Pu.ok fun w=>by kernel_rfl
theorem a6R{a:Option Addr}{g o:Nat}(ha:a=some ⟨g,o,none⟩)(len cap:Nat)(k:IntKind)(i:Int)(h0:0≤i)(h1:i < len):Pu pG (xV (Instr.indexAt 47 (.slice a len cap) (.int k i))) (.pointer (some ⟨g,o+i.toNat*4,none⟩)):=a3I Tryz.underlying47 Tryz.sizeOf49 ha len cap k i h0 h1
theorem c1l{g o:Nat}:Pu pG (xV (Instr.fieldAt 101 (.pointer (some ⟨g,o,none⟩)) 0)) (.pointer (some ⟨g,o+0,none⟩)):=Pu.ok fun w=>by kernel_rfl
theorem a5P{g o:Nat}:Pu pG (xV (Instr.fieldAt 101 (.pointer (some ⟨g,o,none⟩)) 1)) (.pointer (some ⟨g,o+1,none⟩)):=Pu.ok fun w=>by kernel_rfl
theorem b5s(a0s:Int)(a0t:Int)(a1:Int):Pu pG (xV (Instr.build 98 #[(0,(Value.agg #[(Value.int .i64 a0s),(Value.int .i64 a0t)])),(1,(Value.int .i64 a1))])) (.agg #[(Value.int .i64 a0s),(Value.int .i64 a0t),(Value.int .i64 a1)]):=Pu.ok fun w=>by kernel_rfl
theorem b6T(c8r:Int)(c8s:Int)(a_1:Int):Pu pG (xV (Instr.makeInterface 98 (.agg #[(Value.int .i64 c8r),(Value.int .i64 c8s),(Value.int .i64 a_1)]))) (.iface 98 (.agg #[(Value.int .i64 c8r),(Value.int .i64 c8s),(Value.int .i64 a_1)])):=Pu.ok fun w=>by kernel_rfl
theorem b9Y{a0 a1 a2 a3 a4:Value}:Pu pG (xV (Instr.field 103 (.agg #[a0,a1,a2,a3,a4]) 1)) a1:=Pu.ok fun w=>by kernel_rfl
theorem b9Z{a0 a1 a2 a3 a4:Value}:Pu pG (xV (Instr.field 103 (.agg #[a0,a1,a2,a3,a4]) 2)) a2:=Pu.ok fun w=>by kernel_rfl
theorem a5B{g o:Nat}:Pu pG (xV (Instr.fieldAt 56 (.pointer (some ⟨g,o,none⟩)) 1)) (.pointer (some ⟨g,o+1,none⟩)):=Pu.ok fun w=>by kernel_rfl
abbrev M9(x:ByteArray):List Value:=[(Value.string x)]
theorem b1q(x:ByteArray):(M9 x).length=1:=rfl
theorem b1r(x:ByteArray):(M9 x).all (·.oneCell')=true:=rfl
theorem c8P(a0:ByteArray)(a1:ByteArray)(w:World):(Instr.buildSlice 77 2 #[(0,(Value.string a0)),(1,(Value.string a1))]).run pG w=.ok (.slice (some ⟨w.heap.size,0,none⟩) 2 2) (w.alloc (.cells [(Value.string a0),(Value.string a1)].toArray 9)):=by kernel_rfl
abbrev b4l(x:Int):List Value:=[(Value.int .i64 x)]
theorem c0a(x:Int):(b4l x).length=1:=rfl
theorem c0b(x:Int):(b4l x).all (·.oneCell')=true:=rfl
theorem c6T(a0:Int)(a1:Int)(w:World):(Instr.buildSlice 137 2 #[(0,(Value.int .i64 a0)),(1,(Value.int .i64 a1))]).run pG w=.ok (.slice (some ⟨w.heap.size,0,none⟩) 2 2) (w.alloc (.cells [(Value.int .i64 a0),(Value.int .i64 a1)].toArray 3)):=by kernel_rfl
theorem V5{g o:Nat}:Pu pG (xV (Instr.fieldAt 56 (.pointer (some ⟨g,o,none⟩)) 3)) (.pointer (some ⟨g,o+3,none⟩)):=Pu.ok fun w=>by kernel_rfl
theorem b4m(a0:Int)(d1O:Int)(d1P:Int):Pu pG (xV (Instr.build 103 #[(0,(Value.int .i64 a0)),(3,(Value.agg #[(Value.int .i64 d1O),(Value.int .i64 d1P)]))])) (.agg #[(Value.int .i64 a0),(Value.string ⟨#[]⟩),(Value.int .i64 0),(Value.int .i64 d1O),(Value.int .i64 d1P)]):=Pu.ok fun w=>by kernel_rfl
abbrev i8(x:b6):List Value:=[(Value.int .i64 x.d8),(Value.string x.C3),(Value.int .i64 x.G9),(Value.int .i64 x.fAt.B9),(Value.int .i64 x.fAt.K8)]
theorem a2x(x:b6):(i8 x).length=5:=rfl
theorem a2y(x:b6):(i8 x).all (·.oneCell')=true:=rfl
theorem b6e(a0s:Int)(a0t:ByteArray)(b2R:Int)(c4o:Int)(c4p:Int)(w:World):(Instr.buildSlice 61 1 #[(0,(Value.agg #[(Value.int .i64 a0s),(Value.string a0t),(Value.int .i64 b2R),(Value.int .i64 c4o),(Value.int .i64 c4p)]))]).run pG w=.ok (.slice (some ⟨w.heap.size,0,none⟩) 1 1) (w.alloc (.cells [(Value.int .i64 a0s),(Value.string a0t),(Value.int .i64 b2R),(Value.int .i64 c4o),(Value.int .i64 c4p)].toArray 103)):=by kernel_rfl
theorem c8Q:Tryz.prog.info? 103=some ((Tryz.prog.info? 103).getD default):=by kernel_rfl
theorem b7B{E:Pan}{w0 w:World}{ps:Nat→Prop}{H0 H:Hp}{Fs:List Frag}{K:Value→World→Prop}{s:Sl}{xs:List b6}{F:Frag}{t2:Sl}{ys:List b6}{ks:List Bool}{ty:TypeId}(I:Inv w0 ps H0 H (F::Fs) w)(hr:RowL 103 5 i8 s xs F)(hs:SrcO w i8 t2 ys)(hb:(xs.length+ys.length)*49≤140737488355328)(h:∀(s':Sl)(F':Frag)(w':World),RowL 103 5 i8 s' (xs++ys) F'→Inv w0 ps H0 H (F'::Fs) w'→(∀k,k < w.heap.size→(∀p∈F,p.1≠k)→w'.heap[k]? = w.heap[k]?)→K (.slice s'.a s'.n s'.c) w'):opK pG E (xBuiltin .append #[61,61] ty ks [.slice s.a s.n s.c,.slice t2.a t2.n t2.c]) w K:=
  b6b (bytes:=48) Tryz.underlying61 c8Q (z:=(Value.agg #[(Value.int .i64 0),(Value.string ⟨#[]⟩),(Value.int .i64 0),(Value.int .i64 0),(Value.int .i64 0)])) (by kernel_rfl) (by kernel_rfl) (by kernel_rfl) (by kernel_rfl) I hr hs hb h
theorem W7{g o:Nat}:Pu pG (xV (Instr.fieldAt 120 (.pointer (some ⟨g,o,none⟩)) 2)) (.pointer (some ⟨g,o+2,none⟩)):=Pu.ok fun w=>by kernel_rfl
theorem b8m(a0:Bool)(a1:Bool):Pu pG (xV (Instr.build 123 #[(0,(Value.bool a0)),(1,(Value.bool a1))])) (.agg #[(Value.bool a0),(Value.bool a1)]):=Pu.ok fun w=>by kernel_rfl
theorem K3{g o:Nat}:Pu pG (xV (Instr.fieldAt 123 (.pointer (some ⟨g,o,none⟩)) 0)) (.pointer (some ⟨g,o+0,none⟩)):=Pu.ok fun w=>by kernel_rfl
theorem b7C{g o:Nat}:Pu pG (xV (Instr.fieldAt 68 (.pointer (some ⟨g,o,none⟩)) 0)) (.pointer (some ⟨g,o+0,none⟩)):=Pu.ok fun w=>by kernel_rfl
theorem b3Y{g o:Nat}:Pu pG (xV (Instr.fieldAt 123 (.pointer (some ⟨g,o,none⟩)) 1)) (.pointer (some ⟨g,o+1,none⟩)):=Pu.ok fun w=>by kernel_rfl
theorem c0c{a0 a1 a2:Value}:Pu pG (xV (Instr.field 120 (.agg #[a0,a1,a2]) 2)) a2:=Pu.ok fun w=>by kernel_rfl
theorem c0d(a0a:Option Addr)(a0n a0c:Nat)(a1a:Option Addr)(a1n a1c:Nat)(w:World):(Instr.buildSlice 172 2 #[(0,(Value.slice a0a a0n a0c)),(1,(Value.slice a1a a1n a1c))]).run pG w=.ok (.slice (some ⟨w.heap.size,0,none⟩) 2 2) (w.alloc (.cells [(Value.slice a0a a0n a0c),(Value.slice a1a a1n a1c)].toArray 128)):=by kernel_rfl
theorem c0e(a0s:Int)(a0t:Int)(b2R:ByteArray)(a0_3a:Option Addr)(a0_3n a0_3c:Nat):Pu pG (xV (Instr.build 141 #[(0,(Value.agg #[(Value.int .i64 a0s),(Value.int .i64 a0t),(Value.string b2R),(Value.slice a0_3a a0_3n a0_3c)]))])) (.agg #[(Value.int .i64 a0s),(Value.int .i64 a0t),(Value.string b2R),(Value.slice a0_3a a0_3n a0_3c)]):=Pu.ok fun w=>by kernel_rfl
theorem b4n(x:S0):Pu pG (xV (Instr.makeInterface 141 (.agg #[(Value.int .i64 x.z7.d8),(Value.int .i64 x.z7.G9),(Value.string x.z7.t7),(Value.slice x.z7.G4.a x.z7.G4.n x.z7.G4.c)]))) (K6 (k7.M4 x)):=Pu.ok fun w=>rfl
abbrev y7(x:k7):List Value:=[(K6 x)]
theorem V7(x:k7):(y7 x).length=1:=rfl
theorem Z5(x:k7):(y7 x).all (·.oneCell')=true:=b9v x
theorem b4J(a0:k7)(w:World):(Instr.buildSlice 128 1 #[(0,(K6 a0))]).run pG w=.ok (.slice (some ⟨w.heap.size,0,none⟩) 1 1) (w.alloc (.cells [(K6 a0)].toArray 131)):=by cases a0<;>kernel_rfl
theorem c3s  : Pu pG (xV (Instr.build 120 #[])) (.agg #[(Value.int .i64 0),(Value.int .i64 0),(Value.int .i64 0)]):=Pu.ok fun w=>by kernel_rfl
theorem b3Z{g o:Nat}:Pu pG (xV (Instr.fieldAt 120 (.pointer (some ⟨g,o,none⟩)) 0)) (.pointer (some ⟨g,o+0,none⟩)):=Pu.ok fun w=>by kernel_rfl
theorem b6U{g o:Nat}:Pu pG (xV (Instr.fieldAt 120 (.pointer (some ⟨g,o,none⟩)) 1)) (.pointer (some ⟨g,o+1,none⟩)):=Pu.ok fun w=>by kernel_rfl
theorem c0f(a0s:Int)(a0t:Int)(a0_2a:Option Addr)(a0_2n a0_2c:Nat)(a0_3a:Option Addr)(a0_3n a0_3c:Nat):Pu pG (xV (Instr.build 146 #[(0,(Value.agg #[(Value.int .i64 a0s),(Value.int .i64 a0t),(Value.slice a0_2a a0_2n a0_2c),(Value.slice a0_3a a0_3n a0_3c)]))])) (.agg #[(Value.int .i64 a0s),(Value.int .i64 a0t),(Value.slice a0_2a a0_2n a0_2c),(Value.slice a0_3a a0_3n a0_3c)]):=Pu.ok fun w=>by kernel_rfl
theorem b8n(x:a0b):Pu pG (xV (Instr.makeInterface 146 (.agg #[(Value.int .i64 x.z6.d8),(Value.int .i64 x.z6.fOp),(Value.slice x.z6.o4.a x.z6.o4.n x.z6.o4.c),(Value.slice x.z6.B0.a x.z6.B0.n x.z6.B0.c)]))) (K6 (k7.S3 x)):=Pu.ok fun w=>rfl
theorem b8o(a0:ByteArray)(d1Q:Int)(d1R:Int):Pu pG (xV (Instr.build 155 #[(0,(Value.string a0)),(2,(Value.agg #[(Value.int .i64 d1Q),(Value.int .i64 d1R)]))])) (.agg #[(Value.string a0),(Value.int .i64 0),(Value.int .i64 d1Q),(Value.int .i64 d1R),(Value.slice none 0 0)]):=Pu.ok fun w=>by kernel_rfl
theorem a0v{g o:Nat}:Pu pG (xV (Instr.fieldAt 155 (.pointer (some ⟨g,o,none⟩)) 1)) (.pointer (some ⟨g,o+1,none⟩)):=Pu.ok fun w=>by kernel_rfl
theorem a8K{g o:Nat}:Pu pG (xV (Instr.fieldAt 155 (.pointer (some ⟨g,o,none⟩)) 0)) (.pointer (some ⟨g,o+0,none⟩)):=Pu.ok fun w=>by kernel_rfl
theorem a7r{g o:Nat}:Pu pG (xV (Instr.fieldAt 155 (.pointer (some ⟨g,o,none⟩)) 2)) (.pointer (some ⟨g,o+2,none⟩)):=Pu.ok fun w=>by kernel_rfl
theorem a5C{g o:Nat}:Pu pG (xV (Instr.fieldAt 28 (.pointer (some ⟨g,o,none⟩)) 1)) (.pointer (some ⟨g,o+1,none⟩)):=Pu.ok fun w=>by kernel_rfl
theorem a9V{g o:Nat}:Pu pG (xV (Instr.fieldAt 28 (.pointer (some ⟨g,o,none⟩)) 0)) (.pointer (some ⟨g,o+0,none⟩)):=Pu.ok fun w=>by kernel_rfl
theorem b1s{g o:Nat}:Pu pG (xV (Instr.fieldAt 155 (.pointer (some ⟨g,o,none⟩)) 3)) (.pointer (some ⟨g,o+4,none⟩)):=Pu.ok fun w=>by kernel_rfl
theorem a3j(s:ByteArray)(k:IntKind)(i:Int)(h0:0≤i)(h1:i < s.size):Pu pG (xV (Instr.index 9 (.string s) (.int k i))) (.int .u8 ((s.get! i.toNat).toNat:Int)):=b9R _ s k i Tryz.underlying9 h0 h1
theorem a1t(a0:Int)(a1:ByteArray):Pu pG (xV (Instr.build 103 #[(0,(Value.int .i64 a0)),(1,(Value.string a1))])) (.agg #[(Value.int .i64 a0),(Value.string a1),(Value.int .i64 0),(Value.int .i64 0),(Value.int .i64 0)]):=Pu.ok fun w=>by kernel_rfl
theorem a6S  : Pu pG (xV (Instr.build 103 #[])) (.agg #[(Value.int .i64 0),(Value.string ⟨#[]⟩),(Value.int .i64 0),(Value.int .i64 0),(Value.int .i64 0)]):=Pu.ok fun w=>by kernel_rfl
theorem c4q  : Pu pG (xV (Instr.build 79 #[])) (.agg #[(Value.int .i64 0),(Value.int .i64 0),(Value.int .i64 0),(Value.bool false),(Value.bool false),(Value.slice none 0 0)]):=Pu.ok fun w=>by kernel_rfl
theorem b2o(a:Option Addr)(n c:Nat):Pu pG (xBuiltin .len #[128] 3 [false] [.slice a n c]) (.int .i64 (n:Int)):=a1K Tryz.underlying128 a n c
theorem c4r{a:Option Addr}{g o:Nat}(ha:a=some ⟨g,o,none⟩)(len cap:Nat)(k:IntKind)(i:Int)(h0:0≤i)(h1:i < len):Pu pG (xV (Instr.indexAt 128 (.slice a len cap) (.int k i))) (.pointer (some ⟨g,o+i.toNat*1,none⟩)):=a3I Tryz.underlying128 Tryz.sizeOf131 ha len cap k i h0 h1
theorem b4K{g o:Nat}:Pu pG (xV (Instr.fieldAt 79 (.pointer (some ⟨g,o,none⟩)) 0)) (.pointer (some ⟨g,o+0,none⟩)):=Pu.ok fun w=>by kernel_rfl
theorem b7D{g o:Nat}:Pu pG (xV (Instr.fieldAt 79 (.pointer (some ⟨g,o,none⟩)) 1)) (.pointer (some ⟨g,o+1,none⟩)):=Pu.ok fun w=>by kernel_rfl
theorem b4L{g o:Nat}:Pu pG (xV (Instr.fieldAt 79 (.pointer (some ⟨g,o,none⟩)) 3)) (.pointer (some ⟨g,o+3,none⟩)):=Pu.ok fun w=>by kernel_rfl
theorem b4M{g o:Nat}:Pu pG (xV (Instr.fieldAt 79 (.pointer (some ⟨g,o,none⟩)) 4)) (.pointer (some ⟨g,o+4,none⟩)):=Pu.ok fun w=>by kernel_rfl
theorem b4N{g o:Nat}:Pu pG (xV (Instr.fieldAt 79 (.pointer (some ⟨g,o,none⟩)) 5)) (.pointer (some ⟨g,o+5,none⟩)):=Pu.ok fun w=>by kernel_rfl
theorem c8R(a0:ByteArray)(w:World):(Instr.buildSlice 77 1 #[(0,(Value.string a0))]).run pG w=.ok (.slice (some ⟨w.heap.size,0,none⟩) 1 1) (w.alloc (.cells [(Value.string a0)].toArray 9)):=by kernel_rfl
theorem d5o:Tryz.prog.info? 9=some ((Tryz.prog.info? 9).getD default):=by kernel_rfl
theorem d1S{E:Pan}{w0 w:World}{ps:Nat→Prop}{H0 H:Hp}{Fs:List Frag}{K:Value→World→Prop}{s:Sl}{xs:List ByteArray}{F:Frag}{t2:Sl}{ys:List ByteArray}{ks:List Bool}{ty:TypeId}(I:Inv w0 ps H0 H (F::Fs) w)(hr:RowL 9 1 M9 s xs F)(hs:SrcO w M9 t2 ys)(hb:(xs.length+ys.length)*17≤140737488355328)(h:∀(s':Sl)(F':Frag)(w':World),RowL 9 1 M9 s' (xs++ys) F'→Inv w0 ps H0 H (F'::Fs) w'→(∀k,k < w.heap.size→(∀p∈F,p.1≠k)→w'.heap[k]? = w.heap[k]?)→K (.slice s'.a s'.n s'.c) w'):opK pG E (xBuiltin .append #[77,77] ty ks [.slice s.a s.n s.c,.slice t2.a t2.n t2.c]) w K:=
  b6b (bytes:=16) Tryz.underlying77 d5o (z:=(Value.string ⟨#[]⟩)) (by kernel_rfl) (by kernel_rfl) (by kernel_rfl) (by kernel_rfl) I hr hs hb h
theorem b7E(a:Option Addr)(n c:Nat):Pu pG (xBuiltin .len #[172] 3 [false] [.slice a n c]) (.int .i64 (n:Int)):=a1K Tryz.underlying172 a n c
theorem b8N{a:Option Addr}{g o:Nat}(ha:a=some ⟨g,o,none⟩)(len cap:Nat)(k:IntKind)(i:Int)(h0:0≤i)(h1:i < len):Pu pG (xV (Instr.indexAt 172 (.slice a len cap) (.int k i))) (.pointer (some ⟨g,o+i.toNat*1,none⟩)):=a3I Tryz.underlying172 Tryz.sizeOf128 ha len cap k i h0 h1
theorem c4s(s:ByteArray):Pu pG (xV (Instr.makeInterface 9 (.string s))) (.iface 9 (.string s)):=Pu.ok fun w=>by kernel_rfl
theorem c1J:Tryz.prog.info? 131=some ((Tryz.prog.info? 131).getD default):=by kernel_rfl
theorem b4o{E:Pan}{w0 w:World}{ps:Nat→Prop}{H0 H:Hp}{Fs:List Frag}{K:Value→World→Prop}{s:Sl}{xs:List k7}{F:Frag}{t2:Sl}{ys:List k7}{ks:List Bool}{ty:TypeId}(I:Inv w0 ps H0 H (F::Fs) w)(hr:RowL 131 1 y7 s xs F)(hs:SrcO w y7 t2 ys)(hb:(xs.length+ys.length)*17≤140737488355328)(h:∀(s':Sl)(F':Frag)(w':World),RowL 131 1 y7 s' (xs++ys) F'→Inv w0 ps H0 H (F'::Fs) w'→(∀k,k < w.heap.size→(∀p∈F,p.1≠k)→w'.heap[k]? = w.heap[k]?)→K (.slice s'.a s'.n s'.c) w'):opK pG E (xBuiltin .append #[128,128] ty ks [.slice s.a s.n s.c,.slice t2.a t2.n t2.c]) w K:=
  b6b (bytes:=16) Tryz.underlying128 c1J (z:=Value.nilIface) (by kernel_rfl) (by kernel_rfl) (by kernel_rfl) (by kernel_rfl) I hr hs hb h
theorem c0g(a0s:ByteArray)(a0t:Int):Pu pG (xV (Instr.build 175 #[(0,(Value.agg #[(Value.string a0s),(Value.int .i64 a0t)]))])) (.agg #[(Value.string a0s),(Value.int .i64 a0t)]):=Pu.ok fun w=>by kernel_rfl
theorem b8p(x:a0U):Pu pG (xV (Instr.makeInterface 175 (.agg #[(Value.string x.a2q.t7),(Value.int .i64 x.a2q.a1u)]))) (K6 (k7.Q6 x)):=Pu.ok fun w=>rfl
theorem c0h(a0s:Int)(a0t:ByteArray)(a0_2a:Option Addr)(a0_2n a0_2c:Nat)(a0_3a:Option Addr)(a0_3n a0_3c:Nat)(a0_4a:Option Addr)(a0_4n a0_4c:Nat)(a0_5a:Option Addr)(a0_5n a0_5c:Nat):Pu pG (xV (Instr.build 177 #[(0,(Value.agg #[(Value.int .i64 a0s),(Value.string a0t),(Value.slice a0_2a a0_2n a0_2c),(Value.slice a0_3a a0_3n a0_3c),(Value.slice a0_4a a0_4n a0_4c),(Value.slice a0_5a a0_5n a0_5c)]))])) (.agg #[(Value.int .i64 a0s),(Value.string a0t),(Value.slice a0_2a a0_2n a0_2c),(Value.slice a0_3a a0_3n a0_3c),(Value.slice a0_4a a0_4n a0_4c),(Value.slice a0_5a a0_5n a0_5c)]):=Pu.ok fun w=>by kernel_rfl
theorem b8q(x:a0d):Pu pG (xV (Instr.makeInterface 177 (.agg #[(Value.int .i64 x.p6.d8),(Value.string x.p6.t7),(Value.slice x.p6.o4.a x.p6.o4.n x.p6.o4.c),(Value.slice x.p6.v8.a x.p6.v8.n x.p6.v8.c),(Value.slice x.p6.J5.a x.p6.J5.n x.p6.J5.c),(Value.slice x.p6.H7.a x.p6.H7.n x.p6.H7.c)]))) (K6 (k7.N6 x)):=Pu.ok fun w=>rfl
theorem b6V{g o:Nat}:Pu pG (xV (Instr.fieldAt 139 (.pointer (some ⟨g,o,none⟩)) 2)) (.pointer (some ⟨g,o+2,none⟩)):=Pu.ok fun w=>by kernel_rfl
theorem c8S(a0:ByteArray)(a1:ByteArray)(a2:ByteArray)(w:World):(Instr.buildSlice 77 3 #[(0,(Value.string a0)),(1,(Value.string a1)),(2,(Value.string a2))]).run pG w=.ok (.slice (some ⟨w.heap.size,0,none⟩) 3 3) (w.alloc (.cells [(Value.string a0),(Value.string a1),(Value.string a2)].toArray 9)):=by kernel_rfl
theorem c6U(a0:Int)(a1:Int)(a2:Int)(w:World):(Instr.buildSlice 137 3 #[(0,(Value.int .i64 a0)),(1,(Value.int .i64 a1)),(2,(Value.int .i64 a2))]).run pG w=.ok (.slice (some ⟨w.heap.size,0,none⟩) 3 3) (w.alloc (.cells [(Value.int .i64 a0),(Value.int .i64 a1),(Value.int .i64 a2)].toArray 3)):=by kernel_rfl
theorem b2S(a0 a1 a2 a3 a4 a5 a6:ByteArray):Pu pG (xV (Instr.build 195 #[(0,.string a0),(1,.string a1),(2,.string a2),(3,.string a3),(4,.string a4),(5,.string a5),(6,.string a6)])) (.agg #[.string a0,.string a1,.string a2,.string a3,.string a4,.string a5,.string a6]):=Pu.ok fun w=>by kernel_rfl
theorem c3t(a0 a1 a2 a3 a4 a5 a6:ByteArray)(k:IntKind)(i:Int)(h0:0≤i)(h1:i < 7):Pu pG (xV (Instr.index 195 (.agg #[.string a0,.string a1,.string a2,.string a3,.string a4,.string a5,.string a6]) (.int k i))) (.string (([a0,a1,a2,a3,a4,a5,a6]:List ByteArray).getD i.toNat ⟨#[]⟩)):=by
  obtain rfl | rfl | rfl | rfl | rfl | rfl | rfl:=(by omega:i=0∨i=1∨i=2∨i=3∨i=4∨i=5∨i=6)
  · exact Pu.ok fun w=>by kernel_rfl
  · exact Pu.ok fun w=>by kernel_rfl
  · exact Pu.ok fun w=>by kernel_rfl
  · exact Pu.ok fun w=>by kernel_rfl
  · exact Pu.ok fun w=>by kernel_rfl
  · exact Pu.ok fun w=>by kernel_rfl
  · exact Pu.ok fun w=>by kernel_rfl
theorem b5I(k:IntKind)(n:Int):Pu pG (xV (convert 5 3 (.int k n))) (.int .i64 (IntKind.wrap .i64 n)):=Pu.ok fun w=>run_convert_int (P:=pG) (w:=w) 5 3 k n (by rw [Tryz.underlying5];rfl) Tryz.underlying3
theorem c1m(k:IntKind)(n:Int):Pu pG (xV (convert 5 191 (.int k n))) (.int .u64 (IntKind.wrap .u64 n)):=Pu.ok fun w=>run_convert_int (P:=pG) (w:=w) 5 191 k n (by rw [Tryz.underlying5];rfl) Tryz.underlying191
theorem c1n(k:IntKind)(n:Int):Pu pG (xV (convert 191 2 (.int k n))) (.int .i64 (IntKind.wrap .i64 n)):=Pu.ok fun w=>run_convert_int (P:=pG) (w:=w) 191 2 k n (by rw [Tryz.underlying191];rfl) Tryz.underlying2
theorem b7f(a0:Int)(a1:ByteArray)(a2:Int):Pu pG (xV (Instr.build 103 #[(0,(Value.int .i64 a0)),(1,(Value.string a1)),(2,(Value.int .i64 a2))])) (.agg #[(Value.int .i64 a0),(Value.string a1),(Value.int .i64 a2),(Value.int .i64 0),(Value.int .i64 0)]):=Pu.ok fun w=>by kernel_rfl
theorem c1o{g o:Nat}:Pu pG (xV (Instr.fieldAt 139 (.pointer (some ⟨g,o,none⟩)) 0)) (.pointer (some ⟨g,o+0,none⟩)):=Pu.ok fun w=>by kernel_rfl
theorem c4t(a:Option Addr)(n c:Nat):Pu pG (xBuiltin .len #[77] 3 [false] [.slice a n c]) (.int .i64 (n:Int)):=a1K Tryz.underlying77 a n c
theorem c0i{a:Option Addr}{g o:Nat}(ha:a=some ⟨g,o,none⟩)(len cap:Nat)(k:IntKind)(i:Int)(h0:0≤i)(h1:i < len):Pu pG (xV (Instr.indexAt 77 (.slice a len cap) (.int k i))) (.pointer (some ⟨g,o+i.toNat*1,none⟩)):=a3I Tryz.underlying77 Tryz.sizeOf9 ha len cap k i h0 h1
theorem c1p{g o:Nat}:Pu pG (xV (Instr.fieldAt 139 (.pointer (some ⟨g,o,none⟩)) 1)) (.pointer (some ⟨g,o+1,none⟩)):=Pu.ok fun w=>by kernel_rfl
theorem c4u{a:Option Addr}{g o:Nat}(ha:a=some ⟨g,o,none⟩)(len cap:Nat)(k:IntKind)(i:Int)(h0:0≤i)(h1:i < len):Pu pG (xV (Instr.indexAt 137 (.slice a len cap) (.int k i))) (.pointer (some ⟨g,o+i.toNat*1,none⟩)):=a3I Tryz.underlying137 Tryz.sizeOf3 ha len cap k i h0 h1
theorem c3u(x:Operand){v:Value}(h:okI v):Pu pG (xBin .neq 200 x (.const Value.nilIface) v Value.nilIface) (.bool (!isNilI v)):=c6O _ _ (by kernel_rfl) h
theorem c3v(a0 a1 a2 a3 a4 a5:ByteArray)(k:IntKind)(i:Int)(h0:0≤i)(h1:i < 6):Pu pG (xV (Instr.index 203 (.agg #[.string a0,.string a1,.string a2,.string a3,.string a4,.string a5]) (.int k i))) (.string (([a0,a1,a2,a3,a4,a5]:List ByteArray).getD i.toNat ⟨#[]⟩)):=by
  obtain rfl | rfl | rfl | rfl | rfl | rfl:=(by omega:i=0∨i=1∨i=2∨i=3∨i=4∨i=5)
  · exact Pu.ok fun w=>by kernel_rfl
  · exact Pu.ok fun w=>by kernel_rfl
  · exact Pu.ok fun w=>by kernel_rfl
  · exact Pu.ok fun w=>by kernel_rfl
  · exact Pu.ok fun w=>by kernel_rfl
  · exact Pu.ok fun w=>by kernel_rfl
theorem b9x(x:k7):Pu pG (xV (Instr.typeAssert (K6 x) 131 175 true)) (.tuple #[(Value.agg #[(Value.string ((((x.a4e)).a2q).t7)),(Value.int .i64 ((((x.a4e)).a2q).a1u))]),.bool (x.a8f)]):=by
  cases x<;>exact Pu.ok fun w=>by kernel_rfl
theorem b4a{g o:Nat}:Pu pG (xV (Instr.fieldAt 175 (.pointer (some ⟨g,o,none⟩)) 0)) (.pointer (some ⟨g,o+0,none⟩)):=Pu.ok fun w=>by kernel_rfl
theorem b9y(x:k7):Pu pG (xV (Instr.typeAssert (K6 x) 131 177 true)) (.tuple #[(Value.agg #[(Value.int .i64 ((((x.A6)).p6).d8)),(Value.string ((((x.A6)).p6).t7)),(Value.slice ((((x.A6)).p6).o4).a ((((x.A6)).p6).o4).n ((((x.A6)).p6).o4).c),(Value.slice ((((x.A6)).p6).v8).a ((((x.A6)).p6).v8).n ((((x.A6)).p6).v8).c),(Value.slice ((((x.A6)).p6).J5).a ((((x.A6)).p6).J5).n ((((x.A6)).p6).J5).c),(Value.slice ((((x.A6)).p6).H7).a ((((x.A6)).p6).H7).n ((((x.A6)).p6).H7).c)]),.bool (x.a8g)]):=by
  cases x<;>exact Pu.ok fun w=>by kernel_rfl
theorem S4{g o:Nat}:Pu pG (xV (Instr.fieldAt 177 (.pointer (some ⟨g,o,none⟩)) 0)) (.pointer (some ⟨g,o+0,none⟩)):=Pu.ok fun w=>by kernel_rfl
theorem b9z(x:k7):Pu pG (xV (Instr.typeAssert (K6 x) 131 141 true)) (.tuple #[(Value.agg #[(Value.int .i64 ((((x.L0)).z7).d8)),(Value.int .i64 ((((x.L0)).z7).G9)),(Value.string ((((x.L0)).z7).t7)),(Value.slice ((((x.L0)).z7).G4).a ((((x.L0)).z7).G4).n ((((x.L0)).z7).G4).c)]),.bool (x.a8e)]):=by
  cases x<;>exact Pu.ok fun w=>by kernel_rfl
theorem a1I{g o:Nat}:Pu pG (xV (Instr.fieldAt 141 (.pointer (some ⟨g,o,none⟩)) 0)) (.pointer (some ⟨g,o+0,none⟩)):=Pu.ok fun w=>by kernel_rfl
theorem a2Q{g o:Nat}:Pu pG (xV (Instr.fieldAt 146 (.pointer (some ⟨g,o,none⟩)) 0)) (.pointer (some ⟨g,o+0,none⟩)):=Pu.ok fun w=>by kernel_rfl
theorem a8k(a0:Int)(a1:Int):Pu pG (xV (Instr.build 260 #[(0,(Value.int .i64 a0)),(1,(Value.int .i64 a1))])) (.agg #[(Value.int .i64 a0),(Value.int .i64 a1)]):=Pu.ok fun w=>by kernel_rfl
theorem c8T(d:Nat)(a0 b0:Int)(a1 b1:Int)(w:World):(Op.equalIn (d+2) 260 (.agg #[(Value.int .i64 a0),(Value.int .i64 a1)]) (.agg #[(Value.int .i64 b0),(Value.int .i64 b1)])).run pG w=.ok (decide (a0=b0∧a1=b1)) w:=by
  have u3:=Tryz.underlying3
  have i3:=Tryz.isAgg3
  have s3:=Tryz.sizeOf3
  have hS:Tryz.prog.underlying 260=some (.struct (Tryz.prog.fieldsOf 260)):=by kernel_rfl
  rw [run_equalIn_agg w (d+1) 260 _ _ hS (by kernel_rfl)]
  simp only [Program.fieldsOf,Tryz.underlying260]
  go_simp
  try simp only [b4G]
  by_cases h0:a0=b0
  · by_cases h1:a1=b1
    · simp [h0,h1]
    · simp [h0,h1]
  · simp [h0]
theorem b3L(x y:Operand)(a0 b0:Int)(a1 b1:Int):Pu pG (xBin .eql 260 x y (.agg #[(Value.int .i64 a0),(Value.int .i64 a1)]) (.agg #[(Value.int .i64 b0),(Value.int .i64 b1)])) (.bool (decide (a0=b0∧a1=b1))):=by
  refine Pu.ok (s:=do eqGuard .eql 260 x y (.agg #[(Value.int .i64 a0),(Value.int .i64 a1)]) (.agg #[(Value.int .i64 b0),(Value.int .i64 b1)]);binOp .eql 260 (.agg #[(Value.int .i64 a0),(Value.int .i64 a1)]) (.agg #[(Value.int .i64 b0),(Value.int .i64 b1)])) fun w=>?_
  rw [Sem.run_bind,run_eqGuard_agg w _ _ _ _ _ _ (by kernel_rfl),Result.andThen_ok,run_eql_struct,show (10000:Nat)=9998+2 from rfl,c8T]
  rfl
theorem c3w  : Pu pG (xV (Instr.build 260 #[])) (.agg #[(Value.int .i64 0),(Value.int .i64 0)]):=Pu.ok fun w=>by kernel_rfl
theorem a4f(a0:Int)(a1:Int):Pu pG (xV (Instr.build 264 #[(0,(Value.int .i64 a0)),(1,(Value.int .i64 a1))])) (.agg #[(Value.int .i64 a0),(Value.int .i64 a1)]):=Pu.ok fun w=>by kernel_rfl
theorem c8U(d:Nat)(a0 b0:Int)(a1 b1:Int)(w:World):(Op.equalIn (d+2) 264 (.agg #[(Value.int .i64 a0),(Value.int .i64 a1)]) (.agg #[(Value.int .i64 b0),(Value.int .i64 b1)])).run pG w=.ok (decide (a0=b0∧a1=b1)) w:=by
  have u3:=Tryz.underlying3
  have i3:=Tryz.isAgg3
  have s3:=Tryz.sizeOf3
  have hS:Tryz.prog.underlying 264=some (.struct (Tryz.prog.fieldsOf 264)):=by kernel_rfl
  rw [run_equalIn_agg w (d+1) 264 _ _ hS (by kernel_rfl)]
  simp only [Program.fieldsOf,Tryz.underlying264]
  go_simp
  try simp only [b4G]
  by_cases h0:a0=b0
  · by_cases h1:a1=b1
    · simp [h0,h1]
    · simp [h0,h1]
  · simp [h0]
theorem a9n(x y:Operand)(a0 b0:Int)(a1 b1:Int):Pu pG (xBin .eql 264 x y (.agg #[(Value.int .i64 a0),(Value.int .i64 a1)]) (.agg #[(Value.int .i64 b0),(Value.int .i64 b1)])) (.bool (decide (a0=b0∧a1=b1))):=by
  refine Pu.ok (s:=do eqGuard .eql 264 x y (.agg #[(Value.int .i64 a0),(Value.int .i64 a1)]) (.agg #[(Value.int .i64 b0),(Value.int .i64 b1)]);binOp .eql 264 (.agg #[(Value.int .i64 a0),(Value.int .i64 a1)]) (.agg #[(Value.int .i64 b0),(Value.int .i64 b1)])) fun w=>?_
  rw [Sem.run_bind,run_eqGuard_agg w _ _ _ _ _ _ (by kernel_rfl),Result.andThen_ok,run_eql_struct,show (10000:Nat)=9998+2 from rfl,c8U]
  rfl
theorem c3x  : Pu pG (xV (Instr.build 264 #[])) (.agg #[(Value.int .i64 0),(Value.int .i64 0)]):=Pu.ok fun w=>by kernel_rfl
theorem c6V(a0a:Option Addr)(a0n a0c:Nat)(a1a:Option Addr)(a1n a1c:Nat)(a2a:Option Addr)(a2n a2c:Nat)(a3a:Option Addr)(a3n a3c:Nat)(w:World):(Instr.buildSlice 172 4 #[(0,(Value.slice a0a a0n a0c)),(1,(Value.slice a1a a1n a1c)),(2,(Value.slice a2a a2n a2c)),(3,(Value.slice a3a a3n a3c))]).run pG w=.ok (.slice (some ⟨w.heap.size,0,none⟩) 4 4) (w.alloc (.cells [(Value.slice a0a a0n a0c),(Value.slice a1a a1n a1c),(Value.slice a2a a2n a2c),(Value.slice a3a a3n a3c)].toArray 128)):=by kernel_rfl
abbrev p5(x:l8):List Value:=[(Value.slice x.N3.a x.N3.n x.N3.c),(Value.slice x.a0L.a x.a0L.n x.a0L.c)]
abbrev l7(x:b8):List Value:=[(Value.int .i64 x.B9),(Value.int .i64 x.K8)]
abbrev f7(x:a8):List Value:=[(Value.slice x.fl.a x.fl.n x.fl.c),(Value.int .i64 x.fat),(Value.int .i64 x.fbad),(Value.int .i64 x.fpos.B9),(Value.int .i64 x.fpos.K8)]
abbrev b4p(x:q9):List Value:=[(Value.int .i64 x.fnodes),(Value.int .i64 x.fdepth),(Value.int .i64 x.fe),(Value.bool x.fform),(Value.bool x.fnamed),(Value.slice x.fnames.a x.fnames.n x.fnames.c)]
abbrev g8(x:b7):List Value:=[(Value.slice x.fl.a x.fl.n x.fl.c),(Value.int .i64 x.fn)]
abbrev r8(x:d7):List Value:=[(Value.int .i64 x.fn),(Value.int .i64 x.fdepth),(Value.int .i64 x.fbad)]
abbrev r7(x:d6):List Value:=[(Value.bool x.fok),(Value.bool x.fnames)]
abbrev Z6(x:a2Y):List Value:=[(Value.slice x.fsigns.a x.fsigns.n x.fsigns.c),(Value.slice x.fkinds.a x.fkinds.n x.fkinds.c),x.fpart]
end Go.Proofs.YthklmeihgmcljaaGreatDoor
