/- Single operations at this program's types, and its structures; printed by lift.py. -/
import Derived.KernelRfl
import Derived.Laws.StructEq
import Derived.Laws.Cover2
import Derived.Test.YtaokfhdinhimfaaGreatDooryCS5
import Derived.Test.YtaokfhdinhimfaaGreatDooryCGz
namespace Go.Proofs.YtaokfhdinhimfaaGreatDoor
open Go.RowKit
set_option maxRecDepth 100000
set_option maxHeartbeats 2000000
structure E6 where
  b0g:Sl
  a9A:Sl
structure f7 where
  t8:Sl
  o9:Int
  o8:Sl
  d3:Int
  v2:Int
  p5:Sl
structure m3 where
  y8:Int
  u1:Int
structure d5 where
  s7:Int
  fTo:Int
  f3:Int
  S3:Int
  O5:Int
  fOp:Int
  fA:m3
  fB:m3
structure B0 where
  f3:Int
  m5:ByteArray
  m9:Sl
  A0:Sl
  T0:Sl
  T1:Sl
structure c3x where
  fc:f7
  fgreat:Bool
structure v6 where
  f3:Int
  u1:Int
  m5:ByteArray
  K5:Sl
structure o0 where
  m5:ByteArray
  L0:Int
structure B5 where
  f3:Int
  fOp:Int
  m9:Sl
  D7:Sl
structure j8 where
  y9:f7
structure r5 where
  fc:f7
  fout:Sl
  fbegun:Sl
  fdone:Sl
structure i4 where
  fc:f7
  fvars:(Option Nat)
  farrays:(Option Nat)
structure b5f where
  m5:ByteArray
  c9P:Bool
structure m1 where
  fdst:Bool
  farr:Bool
  fop:Bool
  fa:Bool
  fb:Bool
structure b4D where
  fn:Int
  fdepth:Int
  fbad:Int
structure b4E where
  fok:Bool
  fnames:Bool
structure m8 where
  fl:Sl
structure i6 where
  fname:ByteArray
  fas:Int
structure o4 where
  fnodes:Int
  fdepth:Int
  fe:Int
  fform:Bool
  fnamed:Bool
  fnames:Sl
structure X6 where
  a0L:o0
structure T2 where
  i8:B0
structure O6 where
  A4:v6
structure T3 where
  u0:B5
structure u4 where
  fexprs:Int
  fconds:Int
structure t7 where
  fexprs:Int
  fparts:Int
abbrev u5(x:i4)(s0:Sl):List Value:=[(vs x.fc.t8),(vi x.fc.o9),(vs x.fc.o8),(vi x.fc.d3),(vi x.fc.v2),(vs s0),(Value.map x.fvars),(Value.map x.farrays)]
abbrev f9(x:i4):i4:=i4.mk (f7.mk x.fc.t8 x.fc.o9 x.fc.o8 x.fc.d3 x.fc.v2 (Sl.mk none 0 0)) x.fvars x.farrays
abbrev a8i(x:r5)(s0 s1:Sl):List Value:=[(vs x.fc.t8),(vi x.fc.o9),(vs x.fc.o8),(vi x.fc.d3),(vi x.fc.v2),(vs x.fc.p5),(vs x.fout),(vs s0),(vs s1)]
abbrev a1u(x:o4)(s0:Sl):List Value:=[(vi x.fnodes),(vi x.fdepth),(vi x.fe),(Value.bool x.fform),(Value.bool x.fnamed),(vs s0)]
abbrev a0X(x:o4):o4:=o4.mk x.fnodes x.fdepth x.fe x.fform x.fnamed (Sl.mk none 0 0)
inductive g7 where
  | nil
  | N9 (x:X6)
  | L4 (x:T2)
  | K7 (x:O6)
  | O7 (x:T3)
def K8:g7→Value
  | .nil=>.nilIface
  | .N9 x=>.iface 195 (.agg #[(Value.string x.a0L.m5),(Value.int .i64 x.a0L.L0)])
  | .L4 x=>.iface 197 (.agg #[(Value.int .i64 x.i8.f3),(Value.string x.i8.m5),(Value.slice x.i8.m9.a x.i8.m9.n x.i8.m9.c),(Value.slice x.i8.A0.a x.i8.A0.n x.i8.A0.c),(Value.slice x.i8.T0.a x.i8.T0.n x.i8.T0.c),(Value.slice x.i8.T1.a x.i8.T1.n x.i8.T1.c)])
  | .K7 x=>.iface 202 (.agg #[(Value.int .i64 x.A4.f3),(Value.int .i64 x.A4.u1),(Value.string x.A4.m5),(Value.slice x.A4.K5.a x.A4.K5.n x.A4.K5.c)])
  | .O7 x=>.iface 236 (.agg #[(Value.int .i64 x.u0.f3),(Value.int .i64 x.u0.fOp),(Value.slice x.u0.m9.a x.u0.m9.n x.u0.m9.c),(Value.slice x.u0.D7.a x.u0.D7.n x.u0.D7.c)])
theorem b7j(x:g7):[K8 x].all (·.oneCell')=true:=by cases x<;>rfl
def g7.a3S:g7→X6
  | .N9 x=>x
  | _=>(X6.mk (o0.mk ⟨#[]⟩ 0))
def g7.a6U:g7→Bool
  | .N9 _=>true
  | _=>false
def g7.B1:g7→T2
  | .L4 x=>x
  | _=>(T2.mk (B0.mk 0 ⟨#[]⟩ (Sl.mk none 0 0) (Sl.mk none 0 0) (Sl.mk none 0 0) (Sl.mk none 0 0)))
def g7.a6V:g7→Bool
  | .L4 _=>true
  | _=>false
def g7.L2:g7→O6
  | .K7 x=>x
  | _=>(O6.mk (v6.mk 0 0 ⟨#[]⟩ (Sl.mk none 0 0)))
def g7.a6W:g7→Bool
  | .K7 _=>true
  | _=>false
theorem o5{g o:Nat}:Pu pG (xV (Instr.fieldAt 30 (.pointer (some ⟨g,o,none⟩)) 5)) (.pointer (some ⟨g,o+5,none⟩)):=Pu.ok fun w=>by kernel_rfl
theorem B6(a:Option Addr)(n c:Nat):Pu pG (xBuiltin .len #[28] 3 [false] [.slice a n c]) (.int .i64 (n:Int)):=W4 Tryz.underlying28 a n c
theorem M9{a:Option Addr}{g o:Nat}(ha:a=some ⟨g,o,none⟩)(len cap:Nat)(k:IntKind)(i:Int)(h0:0≤i)(h1:i < len):Pu pG (xV (Instr.indexAt 28 (.slice a len cap) (.int k i))) (.pointer (some ⟨g,o+i.toNat*10,none⟩)):=X4 Tryz.underlying28 Tryz.sizeOf40 ha len cap k i h0 h1
theorem u6{g o:Nat}:Pu pG (xV (Instr.fieldAt 40 (.pointer (some ⟨g,o,none⟩)) 2)) (.pointer (some ⟨g,o+2,none⟩)):=Pu.ok fun w=>by kernel_rfl
theorem D3(a:Option Addr)(n c:Nat):Pu pG (xBuiltin .len #[44] 3 [false] [.slice a n c]) (.int .i64 (n:Int)):=W4 Tryz.underlying44 a n c
theorem a4P(a:Option Addr)(n c:Nat):Pu pG (xBuiltin .len #[47] 3 [false] [.slice a n c]) (.int .i64 (n:Int)):=W4 Tryz.underlying47 a n c
theorem j9{g o:Nat}:Pu pG (xV (Instr.fieldAt 30 (.pointer (some ⟨g,o,none⟩)) 3)) (.pointer (some ⟨g,o+3,none⟩)):=Pu.ok fun w=>by kernel_rfl
theorem a0y{a:Option Addr}{g o:Nat}(ha:a=some ⟨g,o,none⟩)(len cap:Nat)(k:IntKind)(i:Int)(h0:0≤i)(h1:i < len):Pu pG (xV (Instr.indexAt 47 (.slice a len cap) (.int k i))) (.pointer (some ⟨g,o+i.toNat*1,none⟩)):=X4 Tryz.underlying47 Tryz.sizeOf4 ha len cap k i h0 h1
theorem c3G(x y:Operand)(a b:Bool):Pu pG (xBin .neq 4 x y (.bool a) (.bool b)) (.bool (a != b)):=c7f _ _ _ a b Tryz.underlying4
theorem b9Q(a0:Int):Pu pG (xV (Instr.build 60 #[(0,(Value.int .i64 a0))])) (.agg #[(Value.int .i64 a0),(Value.string ⟨#[]⟩),(Value.slice none 0 0),(Value.slice none 0 0),(Value.slice none 0 0),(Value.slice none 0 0)]):=Pu.ok fun w=>by kernel_rfl
abbrev A8(x:B0):List Value:=[(Value.int .i64 x.f3),(Value.string x.m5),(Value.slice x.m9.a x.m9.n x.m9.c),(Value.slice x.A0.a x.A0.n x.A0.c),(Value.slice x.T0.a x.T0.n x.T0.c),(Value.slice x.T1.a x.T1.n x.T1.c)]
theorem b7k(x:B0):(A8 x).length=6:=rfl
theorem b7l(x:B0):(A8 x).all (·.oneCell')=true:=rfl
theorem c5J(a5r:Int)(a1S:ByteArray)(a0_2a:Option Addr)(a0_2n a0_2c:Nat)(a0_3a:Option Addr)(a0_3n a0_3c:Nat)(a0_4a:Option Addr)(a0_4n a0_4c:Nat)(a0_5a:Option Addr)(a0_5n a0_5c:Nat)(w:World):(Instr.buildSlice 23 1 #[(0,(Value.agg #[(Value.int .i64 a5r),(Value.string a1S),(Value.slice a0_2a a0_2n a0_2c),(Value.slice a0_3a a0_3n a0_3c),(Value.slice a0_4a a0_4n a0_4c),(Value.slice a0_5a a0_5n a0_5c)]))]).run pG w=.ok (.slice (some ⟨w.heap.size,0,none⟩) 1 1) (w.alloc (.cells [(Value.int .i64 a5r),(Value.string a1S),(Value.slice a0_2a a0_2n a0_2c),(Value.slice a0_3a a0_3n a0_3c),(Value.slice a0_4a a0_4n a0_4c),(Value.slice a0_5a a0_5n a0_5c)].toArray 60)):=by kernel_rfl
theorem b9R(a1a:Option Addr)(a1n a1c:Nat):Pu pG (xV (Instr.build 25 #[(1,(Value.slice a1a a1n a1c))])) (.agg #[(Value.slice none 0 0),(Value.slice a1a a1n a1c)]):=Pu.ok fun w=>by kernel_rfl
theorem v8{g o:Nat}:Pu pG (xV (Instr.fieldAt 30 (.pointer (some ⟨g,o,none⟩)) 4)) (.pointer (some ⟨g,o+4,none⟩)):=Pu.ok fun w=>by kernel_rfl
theorem P6(a0:Int):Pu pG (xV (Instr.build 38 #[(0,(Value.int .i64 a0))])) (.agg #[(Value.int .i64 a0),(Value.int .i64 0)]):=Pu.ok fun w=>by kernel_rfl
theorem V1(a1:Int)(a2:Int)(a3:Int)(a4:Int)(b7V:Int)(b7W:Int)(b7X:Int)(b7Y:Int):Pu pG (xV (Instr.build 40 #[(1,(Value.int .i64 a1)),(2,(Value.int .i64 a2)),(3,(Value.int .i64 a3)),(4,(Value.int .i64 a4)),(6,(Value.agg #[(Value.int .i64 b7V),(Value.int .i64 b7W)])),(7,(Value.agg #[(Value.int .i64 b7X),(Value.int .i64 b7Y)]))])) (.agg #[(Value.int .i64 0),(Value.int .i64 a1),(Value.int .i64 a2),(Value.int .i64 a3),(Value.int .i64 a4),(Value.int .i64 0),(Value.int .i64 b7V),(Value.int .i64 b7W),(Value.int .i64 b7X),(Value.int .i64 b7Y)]):=Pu.ok fun w=>by kernel_rfl
theorem b7Z(d:Nat)(a0 b0:Int)(a1 b1:Int)(w:World):(Op.equalIn (d+2) 38 (.agg #[(Value.int .i64 a0),(Value.int .i64 a1)]) (.agg #[(Value.int .i64 b0),(Value.int .i64 b1)])).run pG w=.ok (decide (a0=b0∧a1=b1)) w:=by
  have u3:=Tryz.underlying3
  have i3:=Tryz.isAgg3
  have s3:=Tryz.sizeOf3
  have u2:=Tryz.underlying2
  have i2:=Tryz.isAgg2
  have s2:=Tryz.sizeOf2
  have hS:Tryz.prog.underlying 38=some (.struct (Tryz.prog.fieldsOf 38)):=by kernel_rfl
  rw [run_equalIn_agg w (d+1) 38 _ _ hS (by kernel_rfl)]
  simp only [Program.fieldsOf,Tryz.underlying38]
  go_simp
  try simp only [b0e]
  by_cases h0:a0=b0
  · by_cases h1:a1=b1
    · simp [h0,h1]
    · simp [h0,h1]
  · simp [h0]
theorem E4(x y:Operand)(a0 b0:Int)(a1 b1:Int):Pu pG (xBin .eql 38 x y (.agg #[(Value.int .i64 a0),(Value.int .i64 a1)]) (.agg #[(Value.int .i64 b0),(Value.int .i64 b1)])) (.bool (decide (a0=b0∧a1=b1))):=by
  refine Pu.ok (s:=do eqGuard .eql 38 x y (.agg #[(Value.int .i64 a0),(Value.int .i64 a1)]) (.agg #[(Value.int .i64 b0),(Value.int .i64 b1)]);binOp .eql 38 (.agg #[(Value.int .i64 a0),(Value.int .i64 a1)]) (.agg #[(Value.int .i64 b0),(Value.int .i64 b1)])) fun w=>?_
  rw [Sem.run_bind,run_eqGuard_agg w _ _ _ _ _ _ (by kernel_rfl),Result.andThen_ok,run_eql_struct,show (10000:Nat)=9998+2 from rfl,b7Z]
  rfl
theorem c1W(d:Nat)(a0 b0:Int)(a1 b1:Int)(a2 b2:Int)(a3 b3:Int)(a4 b4:Int)(a5 b5:Int)(a6 b6:Int)(a7 b7:Int)(a8 b8:Int)(a9 b9:Int)(w:World):(Op.equalIn (d+3) 40 (.agg #[(Value.int .i64 a0),(Value.int .i64 a1),(Value.int .i64 a2),(Value.int .i64 a3),(Value.int .i64 a4),(Value.int .i64 a5),(Value.int .i64 a6),(Value.int .i64 a7),(Value.int .i64 a8),(Value.int .i64 a9)]) (.agg #[(Value.int .i64 b0),(Value.int .i64 b1),(Value.int .i64 b2),(Value.int .i64 b3),(Value.int .i64 b4),(Value.int .i64 b5),(Value.int .i64 b6),(Value.int .i64 b7),(Value.int .i64 b8),(Value.int .i64 b9)])).run pG w=.ok (decide (a0=b0∧a1=b1∧a2=b2∧a3=b3∧a4=b4∧a5=b5∧a6=b6∧a7=b7∧a8=b8∧a9=b9)) w:=by
  have u3:=Tryz.underlying3
  have i3:=Tryz.isAgg3
  have s3:=Tryz.sizeOf3
  have u2:=Tryz.underlying2
  have i2:=Tryz.isAgg2
  have s2:=Tryz.sizeOf2
  have e38:=b7Z d
  have i38:=Tryz.isAgg38
  have s38:=Tryz.sizeOf38
  have e38:=b7Z d
  have i38:=Tryz.isAgg38
  have s38:=Tryz.sizeOf38
  have hS:Tryz.prog.underlying 40=some (.struct (Tryz.prog.fieldsOf 40)):=by kernel_rfl
  rw [run_equalIn_agg w (d+2) 40 _ _ hS (by kernel_rfl)]
  simp only [Program.fieldsOf,Tryz.underlying40]
  go_simp
  try simp only [b0e]
  by_cases h0:a0=b0
  · by_cases h1:a1=b1
    · by_cases h2:a2=b2
      · by_cases h3:a3=b3
        · by_cases h4:a4=b4
          · by_cases h5:a5=b5
            · by_cases h6:a6=b6
              · by_cases h7:a7=b7
                · by_cases h8:a8=b8
                  · by_cases h9:a9=b9
                    · simp [h0,h1,h2,h3,h4,h5,h6,h7,h8,h9]
                    · simp [h0,h1,h2,h3,h4,h5,h6,h7,h8,h9]
                  · simp [h0,h1,h2,h3,h4,h5,h6,h7,h8]
                · simp [h0,h1,h2,h3,h4,h5,h6,h7]
              · simp [h0,h1,h2,h3,h4,h5,h6]
            · simp [h0,h1,h2,h3,h4,h5]
          · simp [h0,h1,h2,h3,h4]
        · simp [h0,h1,h2,h3]
      · simp [h0,h1,h2]
    · simp [h0,h1]
  · simp [h0]
theorem a8m(x y:Operand)(a0 b0:Int)(a1 b1:Int)(a2 b2:Int)(a3 b3:Int)(a4 b4:Int)(a5 b5:Int)(a6 b6:Int)(a7 b7:Int)(a8 b8:Int)(a9 b9:Int):Pu pG (xBin .eql 40 x y (.agg #[(Value.int .i64 a0),(Value.int .i64 a1),(Value.int .i64 a2),(Value.int .i64 a3),(Value.int .i64 a4),(Value.int .i64 a5),(Value.int .i64 a6),(Value.int .i64 a7),(Value.int .i64 a8),(Value.int .i64 a9)]) (.agg #[(Value.int .i64 b0),(Value.int .i64 b1),(Value.int .i64 b2),(Value.int .i64 b3),(Value.int .i64 b4),(Value.int .i64 b5),(Value.int .i64 b6),(Value.int .i64 b7),(Value.int .i64 b8),(Value.int .i64 b9)])) (.bool (decide (a0=b0∧a1=b1∧a2=b2∧a3=b3∧a4=b4∧a5=b5∧a6=b6∧a7=b7∧a8=b8∧a9=b9))):=by
  refine Pu.ok (s:=do eqGuard .eql 40 x y (.agg #[(Value.int .i64 a0),(Value.int .i64 a1),(Value.int .i64 a2),(Value.int .i64 a3),(Value.int .i64 a4),(Value.int .i64 a5),(Value.int .i64 a6),(Value.int .i64 a7),(Value.int .i64 a8),(Value.int .i64 a9)]) (.agg #[(Value.int .i64 b0),(Value.int .i64 b1),(Value.int .i64 b2),(Value.int .i64 b3),(Value.int .i64 b4),(Value.int .i64 b5),(Value.int .i64 b6),(Value.int .i64 b7),(Value.int .i64 b8),(Value.int .i64 b9)]);binOp .eql 40 (.agg #[(Value.int .i64 a0),(Value.int .i64 a1),(Value.int .i64 a2),(Value.int .i64 a3),(Value.int .i64 a4),(Value.int .i64 a5),(Value.int .i64 a6),(Value.int .i64 a7),(Value.int .i64 a8),(Value.int .i64 a9)]) (.agg #[(Value.int .i64 b0),(Value.int .i64 b1),(Value.int .i64 b2),(Value.int .i64 b3),(Value.int .i64 b4),(Value.int .i64 b5),(Value.int .i64 b6),(Value.int .i64 b7),(Value.int .i64 b8),(Value.int .i64 b9)])) fun w=>?_
  rw [Sem.run_bind,run_eqGuard_agg w _ _ _ _ _ _ (by kernel_rfl),Result.andThen_ok,run_eql_struct,show (10000:Nat)=9997+3 from rfl,c1W]
  rfl
theorem c3H(x y:Operand)(a0 b0:Int)(a1 b1:Int)(a2 b2:Int)(a3 b3:Int)(a4 b4:Int)(a5 b5:Int)(a6 b6:Int)(a7 b7:Int)(a8 b8:Int)(a9 b9:Int):Pu pG (xBin .neq 40 x y (.agg #[(Value.int .i64 a0),(Value.int .i64 a1),(Value.int .i64 a2),(Value.int .i64 a3),(Value.int .i64 a4),(Value.int .i64 a5),(Value.int .i64 a6),(Value.int .i64 a7),(Value.int .i64 a8),(Value.int .i64 a9)]) (.agg #[(Value.int .i64 b0),(Value.int .i64 b1),(Value.int .i64 b2),(Value.int .i64 b3),(Value.int .i64 b4),(Value.int .i64 b5),(Value.int .i64 b6),(Value.int .i64 b7),(Value.int .i64 b8),(Value.int .i64 b9)])) (.bool (!decide (a0=b0∧a1=b1∧a2=b2∧a3=b3∧a4=b4∧a5=b5∧a6=b6∧a7=b7∧a8=b8∧a9=b9))):=by
  refine Pu.ok (s:=do eqGuard .neq 40 x y (.agg #[(Value.int .i64 a0),(Value.int .i64 a1),(Value.int .i64 a2),(Value.int .i64 a3),(Value.int .i64 a4),(Value.int .i64 a5),(Value.int .i64 a6),(Value.int .i64 a7),(Value.int .i64 a8),(Value.int .i64 a9)]) (.agg #[(Value.int .i64 b0),(Value.int .i64 b1),(Value.int .i64 b2),(Value.int .i64 b3),(Value.int .i64 b4),(Value.int .i64 b5),(Value.int .i64 b6),(Value.int .i64 b7),(Value.int .i64 b8),(Value.int .i64 b9)]);binOp .neq 40 (.agg #[(Value.int .i64 a0),(Value.int .i64 a1),(Value.int .i64 a2),(Value.int .i64 a3),(Value.int .i64 a4),(Value.int .i64 a5),(Value.int .i64 a6),(Value.int .i64 a7),(Value.int .i64 a8),(Value.int .i64 a9)]) (.agg #[(Value.int .i64 b0),(Value.int .i64 b1),(Value.int .i64 b2),(Value.int .i64 b3),(Value.int .i64 b4),(Value.int .i64 b5),(Value.int .i64 b6),(Value.int .i64 b7),(Value.int .i64 b8),(Value.int .i64 b9)])) fun w=>?_
  rw [Sem.run_bind,run_eqGuard_agg w _ _ _ _ _ _ (by kernel_rfl),Result.andThen_ok,run_neq_struct,show (10000:Nat)=9997+3 from rfl,c1W]
  rfl
theorem b3a  : Pu pG (xV (Instr.build 30 #[])) (.agg #[(Value.slice none 0 0),(Value.int .i64 0),(Value.slice none 0 0),(Value.int .i64 0),(Value.int .i64 0),(Value.slice none 0 0)]):=Pu.ok fun w=>by kernel_rfl
theorem b5g(a0a:Option Addr)(a0n a0c:Nat)(a2a:Option Addr)(a2n a2c:Nat)(a3:Int):Pu pG (xV (Instr.build 30 #[(0,(Value.slice a0a a0n a0c)),(2,(Value.slice a2a a2n a2c)),(3,(Value.int .i64 a3))])) (.agg #[(Value.slice a0a a0n a0c),(Value.int .i64 0),(Value.slice a2a a2n a2c),(Value.int .i64 a3),(Value.int .i64 0),(Value.slice none 0 0)]):=Pu.ok fun w=>by kernel_rfl
theorem J7{g o:Nat}:Pu pG (xV (Instr.fieldAt 30 (.pointer (some ⟨g,o,none⟩)) 0)) (.pointer (some ⟨g,o+0,none⟩)):=Pu.ok fun w=>by kernel_rfl
theorem A9{g o:Nat}:Pu pG (xV (Instr.fieldAt 30 (.pointer (some ⟨g,o,none⟩)) 2)) (.pointer (some ⟨g,o+2,none⟩)):=Pu.ok fun w=>by kernel_rfl
abbrev i5(x:d5):List Value:=[(Value.int .i64 x.s7),(Value.int .i64 x.fTo),(Value.int .i64 x.f3),(Value.int .i64 x.S3),(Value.int .i64 x.O5),(Value.int .i64 x.fOp),(Value.int .i64 x.fA.y8),(Value.int .i64 x.fA.u1),(Value.int .i64 x.fB.y8),(Value.int .i64 x.fB.u1)]
theorem a2J(x:d5):(i5 x).length=10:=rfl
theorem a4M(x:d5):(i5 x).all (·.oneCell')=true:=rfl
theorem a9B{g o:Nat}:Pu pG (xV (Instr.fieldAt 25 (.pointer (some ⟨g,o,none⟩)) 1)) (.pointer (some ⟨g,o+1,none⟩)):=Pu.ok fun w=>by kernel_rfl
theorem W5(a:Option Addr)(n c:Nat):Pu pG (xBuiltin .len #[23] 3 [false] [.slice a n c]) (.int .i64 (n:Int)):=W4 Tryz.underlying23 a n c
abbrev r9(x:Int):List Value:=[(Value.int .i64 x)]
theorem N0(x:Int):(r9 x).length=1:=rfl
theorem N1(x:Int):(r9 x).all (·.oneCell')=true:=rfl
theorem a2p(a0:Int)(w:World):(Instr.buildSlice 44 1 #[(0,(Value.int .i64 a0))]).run pG w=.ok (.slice (some ⟨w.heap.size,0,none⟩) 1 1) (w.alloc (.cells [(Value.int .i64 a0)].toArray 3)):=by kernel_rfl
theorem c4J:Tryz.prog.info? 3=some ((Tryz.prog.info? 3).getD default):=by kernel_rfl
theorem a5s{E:Pan}{w0 w:World}{ps:Nat→Prop}{H0 H:Hp}{Fs:List Frag}{K:Value→World→Prop}{s:Sl}{xs:List Int}{F:Frag}{t2:Sl}{ys:List Int}{ks:List Bool}{ty:TypeId}(I:Inv w0 ps H0 H (F::Fs) w)(hr:RowL 3 1 r9 s xs F)(hs:SrcO w r9 t2 ys)(hb:(xs.length+ys.length)*9≤140737488355328)(h:∀(s':Sl)(F':Frag)(w':World),RowL 3 1 r9 s' (xs++ys) F'→Inv w0 ps H0 H (F'::Fs) w'→(∀k,k < w.heap.size→(∀p∈F,p.1≠k)→w'.heap[k]? = w.heap[k]?)→K (.slice s'.a s'.n s'.c) w'):opK pG E (xBuiltin .append #[44,44] ty ks [.slice s.a s.n s.c,.slice t2.a t2.n t2.c]) w K:=
  b3B (bytes:=8) Tryz.underlying44 c4J (z:=(Value.int .i64 0)) (by kernel_rfl) (by kernel_rfl) (by kernel_rfl) (by kernel_rfl) I hr hs hb h
theorem b4F{a:Option Addr}{g o:Nat}(ha:a=some ⟨g,o,none⟩)(len cap:Nat)(k:IntKind)(i:Int)(h0:0≤i)(h1:i < len):Pu pG (xV (Instr.indexAt 23 (.slice a len cap) (.int k i))) (.pointer (some ⟨g,o+i.toNat*6,none⟩)):=X4 Tryz.underlying23 Tryz.sizeOf60 ha len cap k i h0 h1
theorem J4{a:Option Addr}{g o:Nat}(ha:a=some ⟨g,o,none⟩)(len cap:Nat)(k:IntKind)(i:Int)(h0:0≤i)(h1:i < len):Pu pG (xV (Instr.indexAt 44 (.slice a len cap) (.int k i))) (.pointer (some ⟨g,o+i.toNat*1,none⟩)):=X4 Tryz.underlying44 Tryz.sizeOf3 ha len cap k i h0 h1
theorem a1I{g o:Nat}:Pu pG (xV (Instr.fieldAt 60 (.pointer (some ⟨g,o,none⟩)) 0)) (.pointer (some ⟨g,o+0,none⟩)):=Pu.ok fun w=>by kernel_rfl
theorem c0j(a5r:Int)(a1S:Int)(b8a:Int)(b3b:Int)(b3c:Int)(c7j:Int)(c1X:Int)(c1Y:Int)(c1Z:Int)(c2a:Int)(w:World):(Instr.buildSlice 28 1 #[(0,(Value.agg #[(Value.int .i64 a5r),(Value.int .i64 a1S),(Value.int .i64 b8a),(Value.int .i64 b3b),(Value.int .i64 b3c),(Value.int .i64 c7j),(Value.int .i64 c1X),(Value.int .i64 c1Y),(Value.int .i64 c1Z),(Value.int .i64 c2a)]))]).run pG w=.ok (.slice (some ⟨w.heap.size,0,none⟩) 1 1) (w.alloc (.cells [(Value.int .i64 a5r),(Value.int .i64 a1S),(Value.int .i64 b8a),(Value.int .i64 b3b),(Value.int .i64 b3c),(Value.int .i64 c7j),(Value.int .i64 c1X),(Value.int .i64 c1Y),(Value.int .i64 c1Z),(Value.int .i64 c2a)].toArray 40)):=by kernel_rfl
theorem c7k:Tryz.prog.info? 40=some ((Tryz.prog.info? 40).getD default):=by kernel_rfl
theorem b8b{E:Pan}{w0 w:World}{ps:Nat→Prop}{H0 H:Hp}{Fs:List Frag}{K:Value→World→Prop}{s:Sl}{xs:List d5}{F:Frag}{t2:Sl}{ys:List d5}{ks:List Bool}{ty:TypeId}(I:Inv w0 ps H0 H (F::Fs) w)(hr:RowL 40 10 i5 s xs F)(hs:SrcO w i5 t2 ys)(hb:(xs.length+ys.length)*81≤140737488355328)(h:∀(s':Sl)(F':Frag)(w':World),RowL 40 10 i5 s' (xs++ys) F'→Inv w0 ps H0 H (F'::Fs) w'→(∀k,k < w.heap.size→(∀p∈F,p.1≠k)→w'.heap[k]? = w.heap[k]?)→K (.slice s'.a s'.n s'.c) w'):opK pG E (xBuiltin .append #[28,28] ty ks [.slice s.a s.n s.c,.slice t2.a t2.n t2.c]) w K:=
  b3B (bytes:=80) Tryz.underlying28 c7k (z:=(Value.agg #[(Value.int .i64 0),(Value.int .i64 0),(Value.int .i64 0),(Value.int .i64 0),(Value.int .i64 0),(Value.int .i64 0),(Value.int .i64 0),(Value.int .i64 0),(Value.int .i64 0),(Value.int .i64 0)])) (by kernel_rfl) (by kernel_rfl) (by kernel_rfl) (by kernel_rfl) I hr hs hb h
theorem a7Q{g o:Nat}:Pu pG (xV (Instr.fieldAt 60 (.pointer (some ⟨g,o,none⟩)) 2)) (.pointer (some ⟨g,o+2,none⟩)):=Pu.ok fun w=>by kernel_rfl
theorem a0z{a:Option Addr}{g o:Nat}(ha:a=some ⟨g,o,none⟩)(len cap:Nat)(k:IntKind)(i:Int)(h0:0≤i)(h1:i < len):Pu pG (xV (Instr.indexAt 57 (.slice a len cap) (.int k i))) (.pointer (some ⟨g,o+i.toNat*4,none⟩)):=X4 Tryz.underlying57 Tryz.sizeOf123 ha len cap k i h0 h1
theorem K9{g o:Nat}:Pu pG (xV (Instr.fieldAt 123 (.pointer (some ⟨g,o,none⟩)) 0)) (.pointer (some ⟨g,o+0,none⟩)):=Pu.ok fun w=>by kernel_rfl
theorem a1J{g o:Nat}:Pu pG (xV (Instr.fieldAt 123 (.pointer (some ⟨g,o,none⟩)) 1)) (.pointer (some ⟨g,o+1,none⟩)):=Pu.ok fun w=>by kernel_rfl
theorem b2P(a0:Int)(a1:Int):Pu pG (xV (Instr.build 38 #[(0,(Value.int .i64 a0)),(1,(Value.int .i64 a1))])) (.agg #[(Value.int .i64 a0),(Value.int .i64 a1)]):=Pu.ok fun w=>by kernel_rfl
theorem U4{g o:Nat}:Pu pG (xV (Instr.fieldAt 123 (.pointer (some ⟨g,o,none⟩)) 3)) (.pointer (some ⟨g,o+3,none⟩)):=Pu.ok fun w=>by kernel_rfl
theorem U5{g o:Nat}:Pu pG (xV (Instr.fieldAt 123 (.pointer (some ⟨g,o,none⟩)) 2)) (.pointer (some ⟨g,o+2,none⟩)):=Pu.ok fun w=>by kernel_rfl
theorem K6(a:Option Addr)(n c:Nat):Pu pG (xBuiltin .len #[27] 3 [false] [.slice a n c]) (.int .i64 (n:Int)):=W4 Tryz.underlying27 a n c
theorem b1U{a:Option Addr}{g o:Nat}(ha:a=some ⟨g,o,none⟩)(len cap:Nat)(k:IntKind)(i:Int)(h0:0≤i)(h1:i < len):Pu pG (xV (Instr.indexAt 27 (.slice a len cap) (.int k i))) (.pointer (some ⟨g,o+i.toNat*1,none⟩)):=X4 Tryz.underlying27 Tryz.sizeOf9 ha len cap k i h0 h1
theorem a4Q{g o:Nat}:Pu pG (xV (Instr.fieldAt 60 (.pointer (some ⟨g,o,none⟩)) 1)) (.pointer (some ⟨g,o+1,none⟩)):=Pu.ok fun w=>by kernel_rfl
theorem J3{g o:Nat}:Pu pG (xV (Instr.fieldAt 40 (.pointer (some ⟨g,o,none⟩)) 3)) (.pointer (some ⟨g,o+3,none⟩)):=Pu.ok fun w=>by kernel_rfl
theorem N2(a:Option Addr)(n c:Nat):Pu pG (xBuiltin .len #[22] 3 [false] [.slice a n c]) (.int .i64 (n:Int)):=W4 Tryz.underlying22 a n c
theorem W6{a:Option Addr}{g o:Nat}(ha:a=some ⟨g,o,none⟩)(len cap:Nat)(k:IntKind)(i:Int)(h0:0≤i)(h1:i < len):Pu pG (xV (Instr.indexAt 22 (.slice a len cap) (.int k i))) (.pointer (some ⟨g,o+i.toNat*2,none⟩)):=X4 Tryz.underlying22 Tryz.sizeOf70 ha len cap k i h0 h1
theorem a4R{g o:Nat}:Pu pG (xV (Instr.fieldAt 70 (.pointer (some ⟨g,o,none⟩)) 0)) (.pointer (some ⟨g,o+0,none⟩)):=Pu.ok fun w=>by kernel_rfl
theorem B2{g o:Nat}:Pu pG (xV (Instr.fieldAt 40 (.pointer (some ⟨g,o,none⟩)) 4)) (.pointer (some ⟨g,o+4,none⟩)):=Pu.ok fun w=>by kernel_rfl
theorem z7{g o:Nat}:Pu pG (xV (Instr.fieldAt 30 (.pointer (some ⟨g,o,none⟩)) 1)) (.pointer (some ⟨g,o+1,none⟩)):=Pu.ok fun w=>by kernel_rfl
theorem z8{g o:Nat}:Pu pG (xV (Instr.fieldAt 40 (.pointer (some ⟨g,o,none⟩)) 6)) (.pointer (some ⟨g,o+6,none⟩)):=Pu.ok fun w=>by kernel_rfl
theorem A7{g o:Nat}:Pu pG (xV (Instr.fieldAt 40 (.pointer (some ⟨g,o,none⟩)) 0)) (.pointer (some ⟨g,o+0,none⟩)):=Pu.ok fun w=>by kernel_rfl
theorem y4{g o:Nat}:Pu pG (xV (Instr.fieldAt 40 (.pointer (some ⟨g,o,none⟩)) 7)) (.pointer (some ⟨g,o+8,none⟩)):=Pu.ok fun w=>by kernel_rfl
theorem a5D{g o:Nat}:Pu pG (xV (Instr.fieldAt 60 (.pointer (some ⟨g,o,none⟩)) 4)) (.pointer (some ⟨g,o+4,none⟩)):=Pu.ok fun w=>by kernel_rfl
theorem a0Y{g o:Nat}:Pu pG (xV (Instr.fieldAt 60 (.pointer (some ⟨g,o,none⟩)) 5)) (.pointer (some ⟨g,o+5,none⟩)):=Pu.ok fun w=>by kernel_rfl
theorem a5E{g o:Nat}:Pu pG (xV (Instr.fieldAt 60 (.pointer (some ⟨g,o,none⟩)) 3)) (.pointer (some ⟨g,o+3,none⟩)):=Pu.ok fun w=>by kernel_rfl
theorem a2K{a:Option Addr}{g o:Nat}(ha:a=some ⟨g,o,none⟩)(len cap:Nat)(k:IntKind)(i:Int)(h0:0≤i)(h1:i < len):Pu pG (xV (Instr.indexAt 58 (.slice a len cap) (.int k i))) (.pointer (some ⟨g,o+i.toNat*4,none⟩)):=X4 Tryz.underlying58 Tryz.sizeOf131 ha len cap k i h0 h1
theorem b1f{g o:Nat}:Pu pG (xV (Instr.fieldAt 131 (.pointer (some ⟨g,o,none⟩)) 0)) (.pointer (some ⟨g,o+0,none⟩)):=Pu.ok fun w=>by kernel_rfl
theorem a3O{g o:Nat}:Pu pG (xV (Instr.fieldAt 131 (.pointer (some ⟨g,o,none⟩)) 3)) (.pointer (some ⟨g,o+3,none⟩)):=Pu.ok fun w=>by kernel_rfl
theorem a8J{g o:Nat}:Pu pG (xV (Instr.fieldAt 131 (.pointer (some ⟨g,o,none⟩)) 2)) (.pointer (some ⟨g,o+2,none⟩)):=Pu.ok fun w=>by kernel_rfl
theorem a0U{g o:Nat}:Pu pG (xV (Instr.fieldAt 131 (.pointer (some ⟨g,o,none⟩)) 1)) (.pointer (some ⟨g,o+1,none⟩)):=Pu.ok fun w=>by kernel_rfl
theorem m7{g o:Nat}:Pu pG (xV (Instr.fieldAt 40 (.pointer (some ⟨g,o,none⟩)) 5)) (.pointer (some ⟨g,o+5,none⟩)):=Pu.ok fun w=>by kernel_rfl
theorem D8{g o:Nat}:Pu pG (xV (Instr.fieldAt 40 (.pointer (some ⟨g,o,none⟩)) 1)) (.pointer (some ⟨g,o+1,none⟩)):=Pu.ok fun w=>by kernel_rfl
theorem L1{g o:Nat}:Pu pG (xV (Instr.fieldAt 70 (.pointer (some ⟨g,o,none⟩)) 1)) (.pointer (some ⟨g,o+1,none⟩)):=Pu.ok fun w=>by kernel_rfl
theorem c7l:Tryz.prog.info? 44=some ((Tryz.prog.info? 44).getD default):=by kernel_rfl
theorem b5h{E:Pan}{w0 w:World}{ps:Nat→Prop}{H0 H:Hp}{Fs:List Frag}{K:Value→World→Prop}{kl kc:IntKind}{n:Int}(I:Inv w0 ps H0 H Fs w)(hn:0≤n)(hb:n*25≤140737488355328)(h:∀(s':Sl)(F':Frag)(w':World),RowL 44 1 csl s' (List.replicate n.toNat (Sl.mk none 0 0)) F'→Inv w0 ps H0 H (F'::Fs) w'→(∀k,k < w.heap.size→w'.heap[k]? = w.heap[k]?)→K (.slice s'.a s'.n s'.c) w'):opK pG E (xV (Instr.makeSlice 83 (.int kl n) (.int kc n))) w K:=
  b5b (bytes:=24) (x0:=(Sl.mk none 0 0)) Tryz.underlying83 c7l (z:=(Value.slice none 0 0)) (by kernel_rfl) (by kernel_rfl) (by kernel_rfl) (by kernel_rfl) I b3C b3D (by decide) kl kc n hn hb h
theorem a2L{a:Option Addr}{g o:Nat}(ha:a=some ⟨g,o,none⟩)(len cap:Nat)(k:IntKind)(i:Int)(h0:0≤i)(h1:i < len):Pu pG (xV (Instr.indexAt 83 (.slice a len cap) (.int k i))) (.pointer (some ⟨g,o+i.toNat*1,none⟩)):=X4 Tryz.underlying83 Tryz.sizeOf44 ha len cap k i h0 h1
abbrev D4(x:ByteArray):List Value:=[(Value.string x)]
theorem a6j(x:ByteArray):(D4 x).length=1:=rfl
theorem a7u(x:ByteArray):(D4 x).all (·.oneCell')=true:=rfl
theorem c9Q:Tryz.prog.info? 9=some ((Tryz.prog.info? 9).getD default):=by kernel_rfl
theorem b8c{E:Pan}{w0 w:World}{ps:Nat→Prop}{H0 H:Hp}{Fs:List Frag}{K:Value→World→Prop}{s:Sl}{xs:List ByteArray}{F:Frag}{t2:Sl}{ys:List ByteArray}{ks:List Bool}{ty:TypeId}(I:Inv w0 ps H0 H (F::Fs) w)(hr:RowL 9 1 D4 s xs F)(hs:SrcO w D4 t2 ys)(hb:(xs.length+ys.length)*17≤140737488355328)(h:∀(s':Sl)(F':Frag)(w':World),RowL 9 1 D4 s' (xs++ys) F'→Inv w0 ps H0 H (F'::Fs) w'→(∀k,k < w.heap.size→(∀p∈F,p.1≠k)→w'.heap[k]? = w.heap[k]?)→K (.slice s'.a s'.n s'.c) w'):opK pG E (xBuiltin .append #[27,27] ty ks [.slice s.a s.n s.c,.slice t2.a t2.n t2.c]) w K:=
  b3B (bytes:=16) Tryz.underlying27 c9Q (z:=(Value.string ⟨#[]⟩)) (by kernel_rfl) (by kernel_rfl) (by kernel_rfl) (by kernel_rfl) I hr hs hb h
abbrev m2(x:o0):List Value:=[(Value.string x.m5),(Value.int .i64 x.L0)]
theorem a6c(x:o0):(m2 x).length=2:=rfl
theorem a9n(x:o0):(m2 x).all (·.oneCell')=true:=rfl
theorem c7m:Tryz.prog.info? 70=some ((Tryz.prog.info? 70).getD default):=by kernel_rfl
theorem c2b{E:Pan}{w0 w:World}{ps:Nat→Prop}{H0 H:Hp}{Fs:List Frag}{K:Value→World→Prop}{s:Sl}{xs:List o0}{F:Frag}{t2:Sl}{ys:List o0}{ks:List Bool}{ty:TypeId}(I:Inv w0 ps H0 H (F::Fs) w)(hr:RowL 70 2 m2 s xs F)(hs:SrcO w m2 t2 ys)(hb:(xs.length+ys.length)*25≤140737488355328)(h:∀(s':Sl)(F':Frag)(w':World),RowL 70 2 m2 s' (xs++ys) F'→Inv w0 ps H0 H (F'::Fs) w'→(∀k,k < w.heap.size→(∀p∈F,p.1≠k)→w'.heap[k]? = w.heap[k]?)→K (.slice s'.a s'.n s'.c) w'):opK pG E (xBuiltin .append #[22,22] ty ks [.slice s.a s.n s.c,.slice t2.a t2.n t2.c]) w K:=
  b3B (bytes:=24) Tryz.underlying22 c7m (z:=(Value.agg #[(Value.string ⟨#[]⟩),(Value.int .i64 0)])) (by kernel_rfl) (by kernel_rfl) (by kernel_rfl) (by kernel_rfl) I hr hs hb h
abbrev L8(x:Bool):List Value:=[(Value.bool x)]
theorem c2c(x:Bool):(L8 x).length=1:=rfl
theorem c2d(x:Bool):(L8 x).all (·.oneCell')=true:=rfl
theorem c9R:Tryz.prog.info? 4=some ((Tryz.prog.info? 4).getD default):=by kernel_rfl
theorem b1u{E:Pan}{w0 w:World}{ps:Nat→Prop}{H0 H:Hp}{Fs:List Frag}{K:Value→World→Prop}{kl kc:IntKind}{n:Int}(I:Inv w0 ps H0 H Fs w)(hn:0≤n)(hb:n*2≤140737488355328)(h:∀(s':Sl)(F':Frag)(w':World),RowL 4 1 L8 s' (List.replicate n.toNat false) F'→Inv w0 ps H0 H (F'::Fs) w'→(∀k,k < w.heap.size→w'.heap[k]? = w.heap[k]?)→K (.slice s'.a s'.n s'.c) w'):opK pG E (xV (Instr.makeSlice 47 (.int kl n) (.int kc n))) w K:=
  b5b (bytes:=1) (x0:=false) Tryz.underlying47 c9R (z:=(Value.bool false)) (by kernel_rfl) (by kernel_rfl) (by kernel_rfl) (by kernel_rfl) I c2c c2d (by decide) kl kc n hn hb h
theorem c2e{E:Pan}{w0 w:World}{ps:Nat→Prop}{H0 H:Hp}{Fs:List Frag}{K:Value→World→Prop}{kl kc:IntKind}{n:Int}(I:Inv w0 ps H0 H Fs w)(hn:0≤n)(hb:n*9≤140737488355328)(h:∀(s':Sl)(F':Frag)(w':World),RowL 3 1 r9 s' (List.replicate n.toNat 0) F'→Inv w0 ps H0 H (F'::Fs) w'→(∀k,k < w.heap.size→w'.heap[k]? = w.heap[k]?)→K (.slice s'.a s'.n s'.c) w'):opK pG E (xV (Instr.makeSlice 44 (.int kl n) (.int kc n))) w K:=
  b5b (bytes:=8) (x0:=0) Tryz.underlying44 c4J (z:=(Value.int .i64 0)) (by kernel_rfl) (by kernel_rfl) (by kernel_rfl) (by kernel_rfl) I N0 N1 (by decide) kl kc n hn hb h
theorem b9S(a0_0a:Option Addr)(a0_0n a0_0c:Nat)(a1S:Int)(a0_2a:Option Addr)(a0_2n a0_2c:Nat)(b3b:Int)(b3c:Int)(a0_5a:Option Addr)(a0_5n a0_5c:Nat):Pu pG (xV (Instr.build 90 #[(0,(Value.agg #[(Value.slice a0_0a a0_0n a0_0c),(Value.int .i64 a1S),(Value.slice a0_2a a0_2n a0_2c),(Value.int .i64 b3b),(Value.int .i64 b3c),(Value.slice a0_5a a0_5n a0_5c)]))])) (.agg #[(Value.slice a0_0a a0_0n a0_0c),(Value.int .i64 a1S),(Value.slice a0_2a a0_2n a0_2c),(Value.int .i64 b3b),(Value.int .i64 b3c),(Value.slice a0_5a a0_5n a0_5c)]):=Pu.ok fun w=>by kernel_rfl
theorem c7n:Tryz.prog.info? 28=some ((Tryz.prog.info? 28).getD default):=by kernel_rfl
theorem c7o{E:Pan}{w0 w:World}{ps:Nat→Prop}{H0 H:Hp}{Fs:List Frag}{K:Value→World→Prop}{kl kc:IntKind}{n:Int}(I:Inv w0 ps H0 H Fs w)(hn:0≤n)(hb:n*25≤140737488355328)(h:∀(s':Sl)(F':Frag)(w':World),RowL 28 1 csl s' (List.replicate n.toNat (Sl.mk none 0 0)) F'→Inv w0 ps H0 H (F'::Fs) w'→(∀k,k < w.heap.size→w'.heap[k]? = w.heap[k]?)→K (.slice s'.a s'.n s'.c) w'):opK pG E (xV (Instr.makeSlice 92 (.int kl n) (.int kc n))) w K:=
  b5b (bytes:=24) (x0:=(Sl.mk none 0 0)) Tryz.underlying92 c7n (z:=(Value.slice none 0 0)) (by kernel_rfl) (by kernel_rfl) (by kernel_rfl) (by kernel_rfl) I b3C b3D (by decide) kl kc n hn hb h
theorem b4G{a:Option Addr}{g o:Nat}(ha:a=some ⟨g,o,none⟩)(len cap:Nat)(k:IntKind)(i:Int)(h0:0≤i)(h1:i < len):Pu pG (xV (Instr.indexAt 92 (.slice a len cap) (.int k i))) (.pointer (some ⟨g,o+i.toNat*1,none⟩)):=X4 Tryz.underlying92 Tryz.sizeOf28 ha len cap k i h0 h1
theorem a9C{g o:Nat}:Pu pG (xV (Instr.fieldAt 96 (.pointer (some ⟨g,o,none⟩)) 2)) (.pointer (some ⟨g,o+7,none⟩)):=Pu.ok fun w=>by kernel_rfl
theorem a9D{g o:Nat}:Pu pG (xV (Instr.fieldAt 96 (.pointer (some ⟨g,o,none⟩)) 3)) (.pointer (some ⟨g,o+8,none⟩)):=Pu.ok fun w=>by kernel_rfl
theorem c0k(a0:ByteArray)(w:World):(Instr.buildSlice 27 1 #[(0,(Value.string a0))]).run pG w=.ok (.slice (some ⟨w.heap.size,0,none⟩) 1 1) (w.alloc (.cells [(Value.string a0)].toArray 9)):=by kernel_rfl
theorem R3{g o:Nat}:Pu pG (xV (Instr.fieldAt 68 (.pointer (some ⟨g,o,none⟩)) 0)) (.pointer (some ⟨g,o+0,none⟩)):=Pu.ok fun w=>by kernel_rfl
theorem b1V{g o:Nat}:Pu pG (xV (Instr.fieldAt 68 (.pointer (some ⟨g,o,none⟩)) 1)) (.pointer (some ⟨g,o+6,none⟩)):=Pu.ok fun w=>by kernel_rfl
theorem a5C(a:Option Addr)(n c:Nat):Pu pG (xBuiltin .len #[57] 3 [false] [.slice a n c]) (.int .i64 (n:Int)):=W4 Tryz.underlying57 a n c
theorem K4{g o:Nat}:Pu pG (xV (Instr.fieldAt 38 (.pointer (some ⟨g,o,none⟩)) 0)) (.pointer (some ⟨g,o+0,none⟩)):=Pu.ok fun w=>by kernel_rfl
theorem b1W{g o:Nat}:Pu pG (xV (Instr.fieldAt 68 (.pointer (some ⟨g,o,none⟩)) 2)) (.pointer (some ⟨g,o+7,none⟩)):=Pu.ok fun w=>by kernel_rfl
theorem b1X{g o:Nat}:Pu pG (xV (Instr.fieldAt 25 (.pointer (some ⟨g,o,none⟩)) 0)) (.pointer (some ⟨g,o+0,none⟩)):=Pu.ok fun w=>by kernel_rfl
theorem c7p(d:Nat)(a0 b0:ByteArray)(a1 b1:Int)(w:World):(Op.equalIn (d+2) 70 (.agg #[(Value.string a0),(Value.int .i64 a1)]) (.agg #[(Value.string b0),(Value.int .i64 b1)])).run pG w=.ok (decide (a0=b0∧a1=b1)) w:=by
  have u9:=Tryz.underlying9
  have i9:=Tryz.isAgg9
  have s9:=Tryz.sizeOf9
  have u3:=Tryz.underlying3
  have i3:=Tryz.isAgg3
  have s3:=Tryz.sizeOf3
  have hS:Tryz.prog.underlying 70=some (.struct (Tryz.prog.fieldsOf 70)):=by kernel_rfl
  rw [run_equalIn_agg w (d+1) 70 _ _ hS (by kernel_rfl)]
  simp only [Program.fieldsOf,Tryz.underlying70]
  go_simp
  try simp only [b0e]
  by_cases h0:a0=b0
  · by_cases h1:a1=b1
    · simp [h0,h1]
    · simp [h0,h1]
  · simp [h0]
theorem c3I(x y:Operand)(a0 b0:ByteArray)(a1 b1:Int):Pu pG (xBin .neq 70 x y (.agg #[(Value.string a0),(Value.int .i64 a1)]) (.agg #[(Value.string b0),(Value.int .i64 b1)])) (.bool (!decide (a0=b0∧a1=b1))):=by
  refine Pu.ok (s:=do eqGuard .neq 70 x y (.agg #[(Value.string a0),(Value.int .i64 a1)]) (.agg #[(Value.string b0),(Value.int .i64 b1)]);binOp .neq 70 (.agg #[(Value.string a0),(Value.int .i64 a1)]) (.agg #[(Value.string b0),(Value.int .i64 b1)])) fun w=>?_
  rw [Sem.run_bind,run_eqGuard_agg w _ _ _ _ _ _ (by kernel_rfl),Result.andThen_ok,run_neq_struct,show (10000:Nat)=9998+2 from rfl,c7p]
  rfl
theorem E2{g o:Nat}:Pu pG (xV (Instr.fieldAt 90 (.pointer (some ⟨g,o,none⟩)) 0)) (.pointer (some ⟨g,o+0,none⟩)):=Pu.ok fun w=>by kernel_rfl
theorem a8K{g o:Nat}:Pu pG (xV (Instr.fieldAt 110 (.pointer (some ⟨g,o,none⟩)) 0)) (.pointer (some ⟨g,o+0,none⟩)):=Pu.ok fun w=>by kernel_rfl
theorem a3P{g o:Nat}:Pu pG (xV (Instr.fieldAt 110 (.pointer (some ⟨g,o,none⟩)) 1)) (.pointer (some ⟨g,o+1,none⟩)):=Pu.ok fun w=>by kernel_rfl
theorem a4Y{g o:Nat}:Pu pG (xV (Instr.fieldAt 110 (.pointer (some ⟨g,o,none⟩)) 2)) (.pointer (some ⟨g,o+2,none⟩)):=Pu.ok fun w=>by kernel_rfl
theorem a6k{g o:Nat}:Pu pG (xV (Instr.fieldAt 110 (.pointer (some ⟨g,o,none⟩)) 3)) (.pointer (some ⟨g,o+3,none⟩)):=Pu.ok fun w=>by kernel_rfl
theorem a1K{g o:Nat}:Pu pG (xV (Instr.fieldAt 110 (.pointer (some ⟨g,o,none⟩)) 4)) (.pointer (some ⟨g,o+4,none⟩)):=Pu.ok fun w=>by kernel_rfl
theorem b0X(a0_0a:Option Addr)(a0_0n a0_0c:Nat)(a1S:Int)(a0_2a:Option Addr)(a0_2n a0_2c:Nat)(b3b:Int)(b3c:Int)(a0_5a:Option Addr)(a0_5n a0_5c:Nat)(a1a:Option Addr)(a1n a1c:Nat)(a2a:Option Addr)(a2n a2c:Nat):Pu pG (xV (Instr.build 96 #[(0,(Value.agg #[(Value.slice a0_0a a0_0n a0_0c),(Value.int .i64 a1S),(Value.slice a0_2a a0_2n a0_2c),(Value.int .i64 b3b),(Value.int .i64 b3c),(Value.slice a0_5a a0_5n a0_5c)])),(1,(Value.slice a1a a1n a1c)),(2,(Value.slice a2a a2n a2c))])) (.agg #[(Value.slice a0_0a a0_0n a0_0c),(Value.int .i64 a1S),(Value.slice a0_2a a0_2n a0_2c),(Value.int .i64 b3b),(Value.int .i64 b3c),(Value.slice a0_5a a0_5n a0_5c),(Value.slice a1a a1n a1c),(Value.slice a2a a2n a2c),(Value.slice none 0 0)]):=Pu.ok fun w=>by kernel_rfl
theorem a9E{g o:Nat}:Pu pG (xV (Instr.fieldAt 96 (.pointer (some ⟨g,o,none⟩)) 1)) (.pointer (some ⟨g,o+6,none⟩)):=Pu.ok fun w=>by kernel_rfl
theorem c0Q{g o:Nat}:Pu pG (xV (Instr.fieldAt 96 (.pointer (some ⟨g,o,none⟩)) 0)) (.pointer (some ⟨g,o+0,none⟩)):=Pu.ok fun w=>by kernel_rfl
theorem a8Q(a:Option Addr)(n c:Nat):Pu pG (xBuiltin .len #[58] 3 [false] [.slice a n c]) (.int .i64 (n:Int)):=W4 Tryz.underlying58 a n c
theorem R4{g o:Nat}:Pu pG (xV (Instr.fieldAt 38 (.pointer (some ⟨g,o,none⟩)) 1)) (.pointer (some ⟨g,o+1,none⟩)):=Pu.ok fun w=>by kernel_rfl
theorem b8d(a3:Bool):Pu pG (xV (Instr.build 110 #[(3,(Value.bool a3))])) (.agg #[(Value.bool false),(Value.bool false),(Value.bool false),(Value.bool a3),(Value.bool false)]):=Pu.ok fun w=>by kernel_rfl
theorem b8e(a0:Bool):Pu pG (xV (Instr.build 110 #[(0,(Value.bool a0))])) (.agg #[(Value.bool a0),(Value.bool false),(Value.bool false),(Value.bool false),(Value.bool false)]):=Pu.ok fun w=>by kernel_rfl
theorem c0R  : Pu pG (xV (Instr.build 110 #[])) (.agg #[(Value.bool false),(Value.bool false),(Value.bool false),(Value.bool false),(Value.bool false)]):=Pu.ok fun w=>by kernel_rfl
theorem b0h(a0 a1 a2 a3 a4 a5 a6:Int):Pu pG (xV (Instr.build 148 #[(0,.int .i64 a0),(1,.int .i64 a1),(2,.int .i64 a2),(3,.int .i64 a3),(4,.int .i64 a4),(5,.int .i64 a5),(6,.int .i64 a6)])) (.agg #[.int .i64 a0,.int .i64 a1,.int .i64 a2,.int .i64 a3,.int .i64 a4,.int .i64 a5,.int .i64 a6]):=Pu.ok fun w=>by kernel_rfl
theorem c0S(a0 a1 a2 a3 a4 a5 a6:Int)(k:IntKind)(i:Int)(h0:0≤i)(h1:i < 7):Pu pG (xV (Instr.index 148 (.agg #[.int .i64 a0,.int .i64 a1,.int .i64 a2,.int .i64 a3,.int .i64 a4,.int .i64 a5,.int .i64 a6]) (.int k i))) (.int .i64 (([a0,a1,a2,a3,a4,a5,a6]:List Int).getD i.toNat 0)):=by
  obtain rfl | rfl | rfl | rfl | rfl | rfl | rfl:=(by omega:i=0∨i=1∨i=2∨i=3∨i=4∨i=5∨i=6)
  · exact Pu.ok fun w=>by kernel_rfl
  · exact Pu.ok fun w=>by kernel_rfl
  · exact Pu.ok fun w=>by kernel_rfl
  · exact Pu.ok fun w=>by kernel_rfl
  · exact Pu.ok fun w=>by kernel_rfl
  · exact Pu.ok fun w=>by kernel_rfl
  · exact Pu.ok fun w=>by kernel_rfl
theorem c0T  : Pu pG (xV (Instr.build 155 #[])) (.agg #[(Value.slice none 0 0)]):=Pu.ok fun w=>by kernel_rfl
abbrev D9(x:i6):List Value:=[(Value.string x.fname),(Value.int .i64 x.fas)]
theorem a6d(x:i6):(D9 x).length=2:=rfl
theorem a6e(x:i6):(D9 x).all (·.oneCell')=true:=rfl
theorem a1L{g o:Nat}:Pu pG (xV (Instr.fieldAt 155 (.pointer (some ⟨g,o,none⟩)) 0)) (.pointer (some ⟨g,o+0,none⟩)):=Pu.ok fun w=>by kernel_rfl
theorem a6X(a0:ByteArray)(a1:Int):Pu pG (xV (Instr.build 158 #[(0,(Value.string a0)),(1,(Value.int .i64 a1))])) (.agg #[(Value.string a0),(Value.int .i64 a1)]):=Pu.ok fun w=>by kernel_rfl
theorem b1Y(a5r:ByteArray)(a1S:Int)(w:World):(Instr.buildSlice 153 1 #[(0,(Value.agg #[(Value.string a5r),(Value.int .i64 a1S)]))]).run pG w=.ok (.slice (some ⟨w.heap.size,0,none⟩) 1 1) (w.alloc (.cells [(Value.string a5r),(Value.int .i64 a1S)].toArray 158)):=by kernel_rfl
theorem c5K:Tryz.prog.info? 158=some ((Tryz.prog.info? 158).getD default):=by kernel_rfl
theorem b3G{E:Pan}{w0 w:World}{ps:Nat→Prop}{H0 H:Hp}{Fs:List Frag}{K:Value→World→Prop}{s:Sl}{xs:List i6}{F:Frag}{t2:Sl}{ys:List i6}{ks:List Bool}{ty:TypeId}(I:Inv w0 ps H0 H (F::Fs) w)(hr:RowL 158 2 D9 s xs F)(hs:SrcO w D9 t2 ys)(hb:(xs.length+ys.length)*25≤140737488355328)(h:∀(s':Sl)(F':Frag)(w':World),RowL 158 2 D9 s' (xs++ys) F'→Inv w0 ps H0 H (F'::Fs) w'→(∀k,k < w.heap.size→(∀p∈F,p.1≠k)→w'.heap[k]? = w.heap[k]?)→K (.slice s'.a s'.n s'.c) w'):opK pG E (xBuiltin .append #[153,153] ty ks [.slice s.a s.n s.c,.slice t2.a t2.n t2.c]) w K:=
  b3B (bytes:=24) Tryz.underlying153 c5K (z:=(Value.agg #[(Value.string ⟨#[]⟩),(Value.int .i64 0)])) (by kernel_rfl) (by kernel_rfl) (by kernel_rfl) (by kernel_rfl) I hr hs hb h
theorem c2f{a:Option Addr}{g o:Nat}(ha:a=some ⟨g,o,none⟩)(len cap:Nat)(k:IntKind)(i:Int)(h0:0≤i)(h1:i < len):Pu pG (xV (Instr.indexAt 153 (.slice a len cap) (.int k i))) (.pointer (some ⟨g,o+i.toNat*2,none⟩)):=X4 Tryz.underlying153 Tryz.sizeOf158 ha len cap k i h0 h1
theorem b1g{g o:Nat}:Pu pG (xV (Instr.fieldAt 158 (.pointer (some ⟨g,o,none⟩)) 0)) (.pointer (some ⟨g,o+0,none⟩)):=Pu.ok fun w=>by kernel_rfl
theorem b9T{g o:Nat}:Pu pG (xV (Instr.fieldAt 158 (.pointer (some ⟨g,o,none⟩)) 1)) (.pointer (some ⟨g,o+1,none⟩)):=Pu.ok fun w=>by kernel_rfl
theorem b9U(x y:Operand)(s:Sl):Pu pG (xBin .eql 22 x y (vs s) (.slice none 0 0)) (.bool s.a.isNone):=c1U _ _ _ s Tryz.underlying22
theorem c5L(w:World):(Instr.buildSlice 22 0 #[]).run pG w=.ok (.slice (some ⟨w.heap.size,0,none⟩) 0 0) (w.alloc (.cells [].toArray 70)):=by kernel_rfl
theorem b0N(a0:Int)(a1:Int)(a2:Int)(a3:Int)(a4:Int)(b7V:Int)(b7W:Int)(b7X:Int)(b7Y:Int):Pu pG (xV (Instr.build 40 #[(0,(Value.int .i64 a0)),(1,(Value.int .i64 a1)),(2,(Value.int .i64 a2)),(3,(Value.int .i64 a3)),(4,(Value.int .i64 a4)),(6,(Value.agg #[(Value.int .i64 b7V),(Value.int .i64 b7W)])),(7,(Value.agg #[(Value.int .i64 b7X),(Value.int .i64 b7Y)]))])) (.agg #[(Value.int .i64 a0),(Value.int .i64 a1),(Value.int .i64 a2),(Value.int .i64 a3),(Value.int .i64 a4),(Value.int .i64 0),(Value.int .i64 b7V),(Value.int .i64 b7W),(Value.int .i64 b7X),(Value.int .i64 b7Y)]):=Pu.ok fun w=>by kernel_rfl
theorem a7v{g o:Nat}:Pu pG (xV (Instr.fieldAt 169 (.pointer (some ⟨g,o,none⟩)) 2)) (.pointer (some ⟨g,o+2,none⟩)):=Pu.ok fun w=>by kernel_rfl
theorem b8f(a0a:Option Addr)(a0n a0c:Nat)(a1a:Option Addr)(a1n a1c:Nat)(w:World):(Instr.buildSlice 192 2 #[(0,(Value.slice a0a a0n a0c)),(1,(Value.slice a1a a1n a1c))]).run pG w=.ok (.slice (some ⟨w.heap.size,0,none⟩) 2 2) (w.alloc (.cells [(Value.slice a0a a0n a0c),(Value.slice a1a a1n a1c)].toArray 179)):=by kernel_rfl
theorem a8R(a5 a6 a7 a8 a9 a10 a3 a4:Int):Pu pG (xV (Instr.build 187 #[(5,.int .i64 a5),(6,.int .i64 a6),(7,.int .i64 a7),(8,.int .i64 a8),(9,.int .i64 a9),(10,.int .i64 a10),(3,.int .i64 a3),(4,.int .i64 a4)])) (.agg #[.int .i64 0,.int .i64 0,.int .i64 0,.int .i64 a3,.int .i64 a4,.int .i64 a5,.int .i64 a6,.int .i64 a7,.int .i64 a8,.int .i64 a9,.int .i64 a10]):=Pu.ok fun w=>by kernel_rfl
theorem c0U(a0 a1 a2 a3 a4 a5 a6 a7 a8 a9 a10:Int)(k:IntKind)(i:Int)(h0:0≤i)(h1:i < 11):Pu pG (xV (Instr.index 187 (.agg #[.int .i64 a0,.int .i64 a1,.int .i64 a2,.int .i64 a3,.int .i64 a4,.int .i64 a5,.int .i64 a6,.int .i64 a7,.int .i64 a8,.int .i64 a9,.int .i64 a10]) (.int k i))) (.int .i64 (([a0,a1,a2,a3,a4,a5,a6,a7,a8,a9,a10]:List Int).getD i.toNat 0)):=by
  obtain rfl | rfl | rfl | rfl | rfl | rfl | rfl | rfl | rfl | rfl | rfl:=(by omega:i=0∨i=1∨i=2∨i=3∨i=4∨i=5∨i=6∨i=7∨i=8∨i=9∨i=10)
  · exact Pu.ok fun w=>by kernel_rfl
  · exact Pu.ok fun w=>by kernel_rfl
  · exact Pu.ok fun w=>by kernel_rfl
  · exact Pu.ok fun w=>by kernel_rfl
  · exact Pu.ok fun w=>by kernel_rfl
  · exact Pu.ok fun w=>by kernel_rfl
  · exact Pu.ok fun w=>by kernel_rfl
  · exact Pu.ok fun w=>by kernel_rfl
  · exact Pu.ok fun w=>by kernel_rfl
  · exact Pu.ok fun w=>by kernel_rfl
  · exact Pu.ok fun w=>by kernel_rfl
theorem c0V  : Pu pG (xV (Instr.build 169 #[])) (.agg #[(Value.int .i64 0),(Value.int .i64 0),(Value.int .i64 0),(Value.bool false),(Value.bool false),(Value.slice none 0 0)]):=Pu.ok fun w=>by kernel_rfl
theorem a9F(a:Option Addr)(n c:Nat):Pu pG (xBuiltin .len #[179] 3 [false] [.slice a n c]) (.int .i64 (n:Int)):=W4 Tryz.underlying179 a n c
theorem c2g{a:Option Addr}{g o:Nat}(ha:a=some ⟨g,o,none⟩)(len cap:Nat)(k:IntKind)(i:Int)(h0:0≤i)(h1:i < len):Pu pG (xV (Instr.indexAt 179 (.slice a len cap) (.int k i))) (.pointer (some ⟨g,o+i.toNat*1,none⟩)):=X4 Tryz.underlying179 Tryz.sizeOf182 ha len cap k i h0 h1
theorem b1h{g o:Nat}:Pu pG (xV (Instr.fieldAt 169 (.pointer (some ⟨g,o,none⟩)) 0)) (.pointer (some ⟨g,o+0,none⟩)):=Pu.ok fun w=>by kernel_rfl
theorem b4t{g o:Nat}:Pu pG (xV (Instr.fieldAt 169 (.pointer (some ⟨g,o,none⟩)) 1)) (.pointer (some ⟨g,o+1,none⟩)):=Pu.ok fun w=>by kernel_rfl
theorem b1i{g o:Nat}:Pu pG (xV (Instr.fieldAt 169 (.pointer (some ⟨g,o,none⟩)) 3)) (.pointer (some ⟨g,o+3,none⟩)):=Pu.ok fun w=>by kernel_rfl
theorem b1j{g o:Nat}:Pu pG (xV (Instr.fieldAt 169 (.pointer (some ⟨g,o,none⟩)) 4)) (.pointer (some ⟨g,o+4,none⟩)):=Pu.ok fun w=>by kernel_rfl
theorem b1k{g o:Nat}:Pu pG (xV (Instr.fieldAt 169 (.pointer (some ⟨g,o,none⟩)) 5)) (.pointer (some ⟨g,o+5,none⟩)):=Pu.ok fun w=>by kernel_rfl
theorem b5i(a:Option Addr)(n c:Nat):Pu pG (xBuiltin .len #[192] 3 [false] [.slice a n c]) (.int .i64 (n:Int)):=W4 Tryz.underlying192 a n c
theorem b6T{a:Option Addr}{g o:Nat}(ha:a=some ⟨g,o,none⟩)(len cap:Nat)(k:IntKind)(i:Int)(h0:0≤i)(h1:i < len):Pu pG (xV (Instr.indexAt 192 (.slice a len cap) (.int k i))) (.pointer (some ⟨g,o+i.toNat*1,none⟩)):=X4 Tryz.underlying192 Tryz.sizeOf179 ha len cap k i h0 h1
theorem c2h(s:ByteArray):Pu pG (xV (Instr.makeInterface 9 (.string s))) (.iface 9 (.string s)):=Pu.ok fun w=>by kernel_rfl
abbrev z6(x:g7):List Value:=[(K8 x)]
theorem R7(x:g7):(z6 x).length=1:=rfl
theorem U6(x:g7):(z6 x).all (·.oneCell')=true:=b7j x
theorem c0l:Tryz.prog.info? 182=some ((Tryz.prog.info? 182).getD default):=by kernel_rfl
theorem b1v{E:Pan}{w0 w:World}{ps:Nat→Prop}{H0 H:Hp}{Fs:List Frag}{K:Value→World→Prop}{s:Sl}{xs:List g7}{F:Frag}{t2:Sl}{ys:List g7}{ks:List Bool}{ty:TypeId}(I:Inv w0 ps H0 H (F::Fs) w)(hr:RowL 182 1 z6 s xs F)(hs:SrcO w z6 t2 ys)(hb:(xs.length+ys.length)*17≤140737488355328)(h:∀(s':Sl)(F':Frag)(w':World),RowL 182 1 z6 s' (xs++ys) F'→Inv w0 ps H0 H (F'::Fs) w'→(∀k,k < w.heap.size→(∀p∈F,p.1≠k)→w'.heap[k]? = w.heap[k]?)→K (.slice s'.a s'.n s'.c) w'):opK pG E (xBuiltin .append #[179,179] ty ks [.slice s.a s.n s.c,.slice t2.a t2.n t2.c]) w K:=
  b3B (bytes:=16) Tryz.underlying179 c0l (z:=Value.nilIface) (by kernel_rfl) (by kernel_rfl) (by kernel_rfl) (by kernel_rfl) I hr hs hb h
theorem b8g(a5r:ByteArray)(a1S:Int):Pu pG (xV (Instr.build 195 #[(0,(Value.agg #[(Value.string a5r),(Value.int .i64 a1S)]))])) (.agg #[(Value.string a5r),(Value.int .i64 a1S)]):=Pu.ok fun w=>by kernel_rfl
theorem b5V(x:X6):Pu pG (xV (Instr.makeInterface 195 (.agg #[(Value.string x.a0L.m5),(Value.int .i64 x.a0L.L0)]))) (K8 (g7.N9 x)):=Pu.ok fun w=>rfl
theorem b8h(a5r:Int)(a1S:ByteArray)(a0_2a:Option Addr)(a0_2n a0_2c:Nat)(a0_3a:Option Addr)(a0_3n a0_3c:Nat)(a0_4a:Option Addr)(a0_4n a0_4c:Nat)(a0_5a:Option Addr)(a0_5n a0_5c:Nat):Pu pG (xV (Instr.build 197 #[(0,(Value.agg #[(Value.int .i64 a5r),(Value.string a1S),(Value.slice a0_2a a0_2n a0_2c),(Value.slice a0_3a a0_3n a0_3c),(Value.slice a0_4a a0_4n a0_4c),(Value.slice a0_5a a0_5n a0_5c)]))])) (.agg #[(Value.int .i64 a5r),(Value.string a1S),(Value.slice a0_2a a0_2n a0_2c),(Value.slice a0_3a a0_3n a0_3c),(Value.slice a0_4a a0_4n a0_4c),(Value.slice a0_5a a0_5n a0_5c)]):=Pu.ok fun w=>by kernel_rfl
theorem b5W(x:T2):Pu pG (xV (Instr.makeInterface 197 (.agg #[(Value.int .i64 x.i8.f3),(Value.string x.i8.m5),(Value.slice x.i8.m9.a x.i8.m9.n x.i8.m9.c),(Value.slice x.i8.A0.a x.i8.A0.n x.i8.A0.c),(Value.slice x.i8.T0.a x.i8.T0.n x.i8.T0.c),(Value.slice x.i8.T1.a x.i8.T1.n x.i8.T1.c)]))) (K8 (g7.L4 x)):=Pu.ok fun w=>rfl
theorem b7m(x:g7):Pu pG (xV (Instr.typeAssert (K8 x) 182 195 true)) (.tuple #[(Value.agg #[(Value.string ((((x.a3S)).a0L).m5)),(Value.int .i64 ((((x.a3S)).a0L).L0))]),.bool (x.a6U)]):=by
  cases x<;>exact Pu.ok fun w=>by kernel_rfl
theorem a3Q{g o:Nat}:Pu pG (xV (Instr.fieldAt 195 (.pointer (some ⟨g,o,none⟩)) 0)) (.pointer (some ⟨g,o+0,none⟩)):=Pu.ok fun w=>by kernel_rfl
theorem b7n(x:g7):Pu pG (xV (Instr.typeAssert (K8 x) 182 197 true)) (.tuple #[(Value.agg #[(Value.int .i64 ((((x.B1)).i8).f3)),(Value.string ((((x.B1)).i8).m5)),(Value.slice ((((x.B1)).i8).m9).a ((((x.B1)).i8).m9).n ((((x.B1)).i8).m9).c),(Value.slice ((((x.B1)).i8).A0).a ((((x.B1)).i8).A0).n ((((x.B1)).i8).A0).c),(Value.slice ((((x.B1)).i8).T0).a ((((x.B1)).i8).T0).n ((((x.B1)).i8).T0).c),(Value.slice ((((x.B1)).i8).T1).a ((((x.B1)).i8).T1).n ((((x.B1)).i8).T1).c)]),.bool (x.a6V)]):=by
  cases x<;>exact Pu.ok fun w=>by kernel_rfl
theorem E7{g o:Nat}:Pu pG (xV (Instr.fieldAt 197 (.pointer (some ⟨g,o,none⟩)) 0)) (.pointer (some ⟨g,o+0,none⟩)):=Pu.ok fun w=>by kernel_rfl
theorem b7o(x:g7):Pu pG (xV (Instr.typeAssert (K8 x) 182 202 true)) (.tuple #[(Value.agg #[(Value.int .i64 ((((x.L2)).A4).f3)),(Value.int .i64 ((((x.L2)).A4).u1)),(Value.string ((((x.L2)).A4).m5)),(Value.slice ((((x.L2)).A4).K5).a ((((x.L2)).A4).K5).n ((((x.L2)).A4).K5).c)]),.bool (x.a6W)]):=by
  cases x<;>exact Pu.ok fun w=>by kernel_rfl
theorem E3{g o:Nat}:Pu pG (xV (Instr.fieldAt 202 (.pointer (some ⟨g,o,none⟩)) 0)) (.pointer (some ⟨g,o+0,none⟩)):=Pu.ok fun w=>by kernel_rfl
theorem y7(a0:Int)(a1:Int):Pu pG (xV (Instr.build 230 #[(0,(Value.int .i64 a0)),(1,(Value.int .i64 a1))])) (.agg #[(Value.int .i64 a0),(Value.int .i64 a1)]):=Pu.ok fun w=>by kernel_rfl
theorem c5M(d:Nat)(a0 b0:Int)(a1 b1:Int)(w:World):(Op.equalIn (d+2) 230 (.agg #[(Value.int .i64 a0),(Value.int .i64 a1)]) (.agg #[(Value.int .i64 b0),(Value.int .i64 b1)])).run pG w=.ok (decide (a0=b0∧a1=b1)) w:=by
  have u3:=Tryz.underlying3
  have i3:=Tryz.isAgg3
  have s3:=Tryz.sizeOf3
  have hS:Tryz.prog.underlying 230=some (.struct (Tryz.prog.fieldsOf 230)):=by kernel_rfl
  rw [run_equalIn_agg w (d+1) 230 _ _ hS (by kernel_rfl)]
  simp only [Program.fieldsOf,Tryz.underlying230]
  go_simp
  try simp only [b0e]
  by_cases h0:a0=b0
  · by_cases h1:a1=b1
    · simp [h0,h1]
    · simp [h0,h1]
  · simp [h0]
theorem D5(x y:Operand)(a0 b0:Int)(a1 b1:Int):Pu pG (xBin .eql 230 x y (.agg #[(Value.int .i64 a0),(Value.int .i64 a1)]) (.agg #[(Value.int .i64 b0),(Value.int .i64 b1)])) (.bool (decide (a0=b0∧a1=b1))):=by
  refine Pu.ok (s:=do eqGuard .eql 230 x y (.agg #[(Value.int .i64 a0),(Value.int .i64 a1)]) (.agg #[(Value.int .i64 b0),(Value.int .i64 b1)]);binOp .eql 230 (.agg #[(Value.int .i64 a0),(Value.int .i64 a1)]) (.agg #[(Value.int .i64 b0),(Value.int .i64 b1)])) fun w=>?_
  rw [Sem.run_bind,run_eqGuard_agg w _ _ _ _ _ _ (by kernel_rfl),Result.andThen_ok,run_eql_struct,show (10000:Nat)=9998+2 from rfl,c5M]
  rfl
theorem a6Y  : Pu pG (xV (Instr.build 230 #[])) (.agg #[(Value.int .i64 0),(Value.int .i64 0)]):=Pu.ok fun w=>by kernel_rfl
theorem c3J(a0a:Option Addr)(a0n a0c:Nat)(a1a:Option Addr)(a1n a1c:Nat)(a2a:Option Addr)(a2n a2c:Nat)(a3a:Option Addr)(a3n a3c:Nat)(w:World):(Instr.buildSlice 192 4 #[(0,(Value.slice a0a a0n a0c)),(1,(Value.slice a1a a1n a1c)),(2,(Value.slice a2a a2n a2c)),(3,(Value.slice a3a a3n a3c))]).run pG w=.ok (.slice (some ⟨w.heap.size,0,none⟩) 4 4) (w.alloc (.cells [(Value.slice a0a a0n a0c),(Value.slice a1a a1n a1c),(Value.slice a2a a2n a2c),(Value.slice a3a a3n a3c)].toArray 179)):=by kernel_rfl
theorem b8i(a5r:Int)(a1S:Int)(a0_2a:Option Addr)(a0_2n a0_2c:Nat)(a0_3a:Option Addr)(a0_3n a0_3c:Nat):Pu pG (xV (Instr.build 236 #[(0,(Value.agg #[(Value.int .i64 a5r),(Value.int .i64 a1S),(Value.slice a0_2a a0_2n a0_2c),(Value.slice a0_3a a0_3n a0_3c)]))])) (.agg #[(Value.int .i64 a5r),(Value.int .i64 a1S),(Value.slice a0_2a a0_2n a0_2c),(Value.slice a0_3a a0_3n a0_3c)]):=Pu.ok fun w=>by kernel_rfl
theorem b5X(x:T3):Pu pG (xV (Instr.makeInterface 236 (.agg #[(Value.int .i64 x.u0.f3),(Value.int .i64 x.u0.fOp),(Value.slice x.u0.m9.a x.u0.m9.n x.u0.m9.c),(Value.slice x.u0.D7.a x.u0.D7.n x.u0.D7.c)]))) (K8 (g7.O7 x)):=Pu.ok fun w=>rfl
theorem b8j(a5r:Int)(a1S:Int)(b8a:ByteArray)(a0_3a:Option Addr)(a0_3n a0_3c:Nat):Pu pG (xV (Instr.build 202 #[(0,(Value.agg #[(Value.int .i64 a5r),(Value.int .i64 a1S),(Value.string b8a),(Value.slice a0_3a a0_3n a0_3c)]))])) (.agg #[(Value.int .i64 a5r),(Value.int .i64 a1S),(Value.string b8a),(Value.slice a0_3a a0_3n a0_3c)]):=Pu.ok fun w=>by kernel_rfl
theorem b1w(x:O6):Pu pG (xV (Instr.makeInterface 202 (.agg #[(Value.int .i64 x.A4.f3),(Value.int .i64 x.A4.u1),(Value.string x.A4.m5),(Value.slice x.A4.K5.a x.A4.K5.n x.A4.K5.c)]))) (K8 (g7.K7 x)):=Pu.ok fun w=>rfl
theorem S2{g o:Nat}:Pu pG (xV (Instr.fieldAt 236 (.pointer (some ⟨g,o,none⟩)) 0)) (.pointer (some ⟨g,o+0,none⟩)):=Pu.ok fun w=>by kernel_rfl
theorem X7(a0:Int)(a1:Int):Pu pG (xV (Instr.build 239 #[(0,(Value.int .i64 a0)),(1,(Value.int .i64 a1))])) (.agg #[(Value.int .i64 a0),(Value.int .i64 a1)]):=Pu.ok fun w=>by kernel_rfl
theorem c5N(d:Nat)(a0 b0:Int)(a1 b1:Int)(w:World):(Op.equalIn (d+2) 239 (.agg #[(Value.int .i64 a0),(Value.int .i64 a1)]) (.agg #[(Value.int .i64 b0),(Value.int .i64 b1)])).run pG w=.ok (decide (a0=b0∧a1=b1)) w:=by
  have u3:=Tryz.underlying3
  have i3:=Tryz.isAgg3
  have s3:=Tryz.sizeOf3
  have hS:Tryz.prog.underlying 239=some (.struct (Tryz.prog.fieldsOf 239)):=by kernel_rfl
  rw [run_equalIn_agg w (d+1) 239 _ _ hS (by kernel_rfl)]
  simp only [Program.fieldsOf,Tryz.underlying239]
  go_simp
  try simp only [b0e]
  by_cases h0:a0=b0
  · by_cases h1:a1=b1
    · simp [h0,h1]
    · simp [h0,h1]
  · simp [h0]
theorem a4S(x y:Operand)(a0 b0:Int)(a1 b1:Int):Pu pG (xBin .eql 239 x y (.agg #[(Value.int .i64 a0),(Value.int .i64 a1)]) (.agg #[(Value.int .i64 b0),(Value.int .i64 b1)])) (.bool (decide (a0=b0∧a1=b1))):=by
  refine Pu.ok (s:=do eqGuard .eql 239 x y (.agg #[(Value.int .i64 a0),(Value.int .i64 a1)]) (.agg #[(Value.int .i64 b0),(Value.int .i64 b1)]);binOp .eql 239 (.agg #[(Value.int .i64 a0),(Value.int .i64 a1)]) (.agg #[(Value.int .i64 b0),(Value.int .i64 b1)])) fun w=>?_
  rw [Sem.run_bind,run_eqGuard_agg w _ _ _ _ _ _ (by kernel_rfl),Result.andThen_ok,run_eql_struct,show (10000:Nat)=9998+2 from rfl,c5N]
  rfl
theorem c0W  : Pu pG (xV (Instr.build 239 #[])) (.agg #[(Value.int .i64 0),(Value.int .i64 0)]):=Pu.ok fun w=>by kernel_rfl
theorem b1Z(a0:g7)(w:World):(Instr.buildSlice 179 1 #[(0,(K8 a0))]).run pG w=.ok (.slice (some ⟨w.heap.size,0,none⟩) 1 1) (w.alloc (.cells [(K8 a0)].toArray 182)):=by cases a0<;>kernel_rfl
abbrev C7(x:E6):List Value:=[(Value.slice x.b0g.a x.b0g.n x.b0g.c),(Value.slice x.a9A.a x.a9A.n x.a9A.c)]
abbrev g8(x:f7):List Value:=[(Value.slice x.t8.a x.t8.n x.t8.c),(Value.int .i64 x.o9),(Value.slice x.o8.a x.o8.n x.o8.c),(Value.int .i64 x.d3),(Value.int .i64 x.v2),(Value.slice x.p5.a x.p5.n x.p5.c)]
abbrev i7(x:m3):List Value:=[(Value.int .i64 x.y8),(Value.int .i64 x.u1)]
abbrev q8(x:v6):List Value:=[(Value.int .i64 x.f3),(Value.int .i64 x.u1),(Value.string x.m5),(Value.slice x.K5.a x.K5.n x.K5.c)]
abbrev t6(x:B5):List Value:=[(Value.int .i64 x.f3),(Value.int .i64 x.fOp),(Value.slice x.m9.a x.m9.n x.m9.c),(Value.slice x.D7.a x.D7.n x.D7.c)]
abbrev a0o(x:r5):List Value:=[(Value.slice x.fc.t8.a x.fc.t8.n x.fc.t8.c),(Value.int .i64 x.fc.o9),(Value.slice x.fc.o8.a x.fc.o8.n x.fc.o8.c),(Value.int .i64 x.fc.d3),(Value.int .i64 x.fc.v2),(Value.slice x.fc.p5.a x.fc.p5.n x.fc.p5.c),(Value.slice x.fout.a x.fout.n x.fout.c),(Value.slice x.fbegun.a x.fbegun.n x.fbegun.c),(Value.slice x.fdone.a x.fdone.n x.fdone.c)]
abbrev a7R(x:m1):List Value:=[(Value.bool x.fdst),(Value.bool x.farr),(Value.bool x.fop),(Value.bool x.fa),(Value.bool x.fb)]
abbrev b1x(x:o4):List Value:=[(Value.int .i64 x.fnodes),(Value.int .i64 x.fdepth),(Value.int .i64 x.fe),(Value.bool x.fform),(Value.bool x.fnamed),(Value.slice x.fnames.a x.fnames.n x.fnames.c)]
end Go.Proofs.YtaokfhdinhimfaaGreatDoor
