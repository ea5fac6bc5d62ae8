/- Single operations at this program's types, and its structures; printed by lift.py. -/
import Derived.KernelRfl
import Derived.Laws.StructEq
import Derived.Laws.Cover2
import Derived.Test.YtaokfhdinhimfaaGreatDooryCS5
import Derived.Test.YtaokfhdinhimfaaGreatDooryCGz
namespace Go.Proofs.YtaokfhdinhimfaaGreatDoor
open Go.RowKit
set_option maxRecDepth 100000
set_option maxHeartbeats 2000000
structure A8 where
  a9G:Sl
  a9a:Sl
structure d4 where
  p5:Sl
  m3:Int
  m2:Sl
  c6:Int
  p9:Int
  m4:Sl
structure i6 where
  r9:Int
  p6:Int
structure c8 where
  o4:Int
  fTo:Int
  d3:Int
  O0:Int
  K0:Int
  fOp:Int
  fA:i6
  fB:i6
structure u5 where
  d3:Int
  i7:ByteArray
  m8:Sl
  z7:Sl
  O7:Sl
  O8:Sl
structure c3m where
  fc:d4
  fgreat:Bool
structure q8 where
  d3:Int
  p6:Int
  i7:ByteArray
  D5:Sl
structure j8 where
  i7:ByteArray
  E1:Int
structure v2 where
  d3:Int
  fOp:Int
  m8:Sl
  A5:Sl
structure g8 where
  s8:d4
structure m9 where
  fc:d4
  fout:Sl
  fbegun:Sl
  fdone:Sl
structure f3 where
  fc:d4
  fvars:(Option Nat)
  farrays:(Option Nat)
structure b4N where
  i7:ByteArray
  c9G:Bool
structure i4 where
  fdst:Bool
  farr:Bool
  fop:Bool
  fa:Bool
  fb:Bool
structure b4l where
  fn:Int
  fdepth:Int
  fbad:Int
structure b4m where
  fok:Bool
  fnames:Bool
structure i8 where
  fl:Sl
structure f8 where
  fname:ByteArray
  fas:Int
structure m1 where
  fnodes:Int
  fdepth:Int
  fe:Int
  fform:Bool
  fnamed:Bool
  fnames:Sl
structure T0 where
  Z4:j8
structure O9 where
  g9:u5
structure K1 where
  t7:q8
structure P0 where
  q9:v2
structure y4 where
  fexprs:Int
  fconds:Int
structure o9 where
  fexprs:Int
  fparts:Int
abbrev p7(x:f3)(s0:Sl):List Value:=[(vs x.fc.p5),(vi x.fc.m3),(vs x.fc.m2),(vi x.fc.c6),(vi x.fc.p9),(vs s0),(Value.map x.fvars),(Value.map x.farrays)]
abbrev d6(x:f3):f3:=f3.mk (d4.mk x.fc.p5 x.fc.m3 x.fc.m2 x.fc.c6 x.fc.p9 (Sl.mk none 0 0)) x.fvars x.farrays
abbrev a7G(x:m9)(s0 s1:Sl):List Value:=[(vs x.fc.p5),(vi x.fc.m3),(vs x.fc.m2),(vi x.fc.c6),(vi x.fc.p9),(vs x.fc.m4),(vs x.fout),(vs s0),(vs s1)]
abbrev a0D(x:m1)(s0:Sl):List Value:=[(vi x.fnodes),(vi x.fdepth),(vi x.fe),(Value.bool x.fform),(Value.bool x.fnamed),(vs s0)]
abbrev a0i(x:m1):m1:=m1.mk x.fnodes x.fdepth x.fe x.fform x.fnamed (Sl.mk none 0 0)
inductive d7 where
  | nil
  | J3 (x:T0)
  | E0 (x:O9)
  | D6 (x:K1)
  | K3 (x:P0)
def D7:d7→Value
  | .nil=>.nilIface
  | .J3 x=>.iface 195 (.agg #[(Value.string x.Z4.i7),(Value.int .i64 x.Z4.E1)])
  | .E0 x=>.iface 197 (.agg #[(Value.int .i64 x.g9.d3),(Value.string x.g9.i7),(Value.slice x.g9.m8.a x.g9.m8.n x.g9.m8.c),(Value.slice x.g9.z7.a x.g9.z7.n x.g9.z7.c),(Value.slice x.g9.O7.a x.g9.O7.n x.g9.O7.c),(Value.slice x.g9.O8.a x.g9.O8.n x.g9.O8.c)])
  | .D6 x=>.iface 202 (.agg #[(Value.int .i64 x.t7.d3),(Value.int .i64 x.t7.p6),(Value.string x.t7.i7),(Value.slice x.t7.D5.a x.t7.D5.n x.t7.D5.c)])
  | .K3 x=>.iface 236 (.agg #[(Value.int .i64 x.q9.d3),(Value.int .i64 x.q9.fOp),(Value.slice x.q9.m8.a x.q9.m8.n x.q9.m8.c),(Value.slice x.q9.A5.a x.q9.A5.n x.q9.A5.c)])
theorem b6S(x:d7):[D7 x].all (·.oneCell')=true:=by cases x<;>rfl
def d7.a3f:d7→T0
  | .J3 x=>x
  | _=>(T0.mk (j8.mk ⟨#[]⟩ 0))
def d7.a6m:d7→Bool
  | .J3 _=>true
  | _=>false
def d7.u6:d7→O9
  | .E0 x=>x
  | _=>(O9.mk (u5.mk 0 ⟨#[]⟩ (Sl.mk none 0 0) (Sl.mk none 0 0) (Sl.mk none 0 0) (Sl.mk none 0 0)))
def d7.a6n:d7→Bool
  | .E0 _=>true
  | _=>false
def d7.D8:d7→K1
  | .D6 x=>x
  | _=>(K1.mk (q8.mk 0 0 ⟨#[]⟩ (Sl.mk none 0 0)))
def d7.a6o:d7→Bool
  | .D6 _=>true
  | _=>false
theorem y3{g o:Nat}:Pu pG (xV (Instr.fieldAt 30 (.pointer (some ⟨g,o,none⟩)) 5)) (.pointer (some ⟨g,o+5,none⟩)):=Pu.ok fun w=>by kernel_rfl
theorem V8(a:Option Addr)(n c:Nat):Pu pG (xBuiltin .len #[28] 3 [false] [.slice a n c]) (.int .i64 (n:Int)):=S0 Tryz.underlying28 a n c
theorem M4{a:Option Addr}{g o:Nat}(ha:a=some ⟨g,o,none⟩)(len cap:Nat)(k:IntKind)(i:Int)(h0:0≤i)(h1:i < len):Pu pG (xV (Instr.indexAt 28 (.slice a len cap) (.int k i))) (.pointer (some ⟨g,o+i.toNat*10,none⟩)):=S8 Tryz.underlying28 Tryz.sizeOf40 ha len cap k i h0 h1
theorem Q5{g o:Nat}:Pu pG (xV (Instr.fieldAt 40 (.pointer (some ⟨g,o,none⟩)) 2)) (.pointer (some ⟨g,o+2,none⟩)):=Pu.ok fun w=>by kernel_rfl
theorem Q2(a:Option Addr)(n c:Nat):Pu pG (xBuiltin .len #[44] 3 [false] [.slice a n c]) (.int .i64 (n:Int)):=S0 Tryz.underlying44 a n c
theorem b0x(a:Option Addr)(n c:Nat):Pu pG (xBuiltin .len #[47] 3 [false] [.slice a n c]) (.int .i64 (n:Int)):=S0 Tryz.underlying47 a n c
theorem v7{g o:Nat}:Pu pG (xV (Instr.fieldAt 30 (.pointer (some ⟨g,o,none⟩)) 3)) (.pointer (some ⟨g,o+3,none⟩)):=Pu.ok fun w=>by kernel_rfl
theorem Y0{a:Option Addr}{g o:Nat}(ha:a=some ⟨g,o,none⟩)(len cap:Nat)(k:IntKind)(i:Int)(h0:0≤i)(h1:i < len):Pu pG (xV (Instr.indexAt 47 (.slice a len cap) (.int k i))) (.pointer (some ⟨g,o+i.toNat*1,none⟩)):=S8 Tryz.underlying47 Tryz.sizeOf4 ha len cap k i h0 h1
theorem c3v(x y:Operand)(a b:Bool):Pu pG (xBin .neq 4 x y (.bool a) (.bool b)) (.bool (a != b)):=c6V _ _ _ a b Tryz.underlying4
theorem b9A(a0:Int):Pu pG (xV (Instr.build 60 #[(0,(Value.int .i64 a0))])) (.agg #[(Value.int .i64 a0),(Value.string ⟨#[]⟩),(Value.slice none 0 0),(Value.slice none 0 0),(Value.slice none 0 0),(Value.slice none 0 0)]):=Pu.ok fun w=>by kernel_rfl
abbrev u4(x:u5):List Value:=[(Value.int .i64 x.d3),(Value.string x.i7),(Value.slice x.m8.a x.m8.n x.m8.c),(Value.slice x.z7.a x.z7.n x.z7.c),(Value.slice x.O7.a x.O7.n x.O7.c),(Value.slice x.O8.a x.O8.n x.O8.c)]
theorem b6T(x:u5):(u4 x).length=6:=rfl
theorem b6U(x:u5):(u4 x).all (·.oneCell')=true:=rfl
theorem c5z(a4F:Int)(a1d:ByteArray)(a0_2a:Option Addr)(a0_2n a0_2c:Nat)(a0_3a:Option Addr)(a0_3n a0_3c:Nat)(a0_4a:Option Addr)(a0_4n a0_4c:Nat)(a0_5a:Option Addr)(a0_5n a0_5c:Nat)(w:World):(Instr.buildSlice 23 1 #[(0,(Value.agg #[(Value.int .i64 a4F),(Value.string a1d),(Value.slice a0_2a a0_2n a0_2c),(Value.slice a0_3a a0_3n a0_3c),(Value.slice a0_4a a0_4n a0_4c),(Value.slice a0_5a a0_5n a0_5c)]))]).run pG w=.ok (.slice (some ⟨w.heap.size,0,none⟩) 1 1) (w.alloc (.cells [(Value.int .i64 a4F),(Value.string a1d),(Value.slice a0_2a a0_2n a0_2c),(Value.slice a0_3a a0_3n a0_3c),(Value.slice a0_4a a0_4n a0_4c),(Value.slice a0_5a a0_5n a0_5c)].toArray 60)):=by kernel_rfl
theorem b9B(a1a:Option Addr)(a1n a1c:Nat):Pu pG (xV (Instr.build 25 #[(1,(Value.slice a1a a1n a1c))])) (.agg #[(Value.slice none 0 0),(Value.slice a1a a1n a1c)]):=Pu.ok fun w=>by kernel_rfl
theorem a0j{g o:Nat}:Pu pG (xV (Instr.fieldAt 30 (.pointer (some ⟨g,o,none⟩)) 4)) (.pointer (some ⟨g,o+4,none⟩)):=Pu.ok fun w=>by kernel_rfl
theorem a5A(a0:Int):Pu pG (xV (Instr.build 38 #[(0,(Value.int .i64 a0))])) (.agg #[(Value.int .i64 a0),(Value.int .i64 0)]):=Pu.ok fun w=>by kernel_rfl
theorem b0Y(a1:Int)(a2:Int)(a3:Int)(a4:Int)(b7F:Int)(b7G:Int)(b7H:Int)(b7I:Int):Pu pG (xV (Instr.build 40 #[(1,(Value.int .i64 a1)),(2,(Value.int .i64 a2)),(3,(Value.int .i64 a3)),(4,(Value.int .i64 a4)),(6,(Value.agg #[(Value.int .i64 b7F),(Value.int .i64 b7G)])),(7,(Value.agg #[(Value.int .i64 b7H),(Value.int .i64 b7I)]))])) (.agg #[(Value.int .i64 0),(Value.int .i64 a1),(Value.int .i64 a2),(Value.int .i64 a3),(Value.int .i64 a4),(Value.int .i64 0),(Value.int .i64 b7F),(Value.int .i64 b7G),(Value.int .i64 b7H),(Value.int .i64 b7I)]):=Pu.ok fun w=>by kernel_rfl
theorem b7J(d:Nat)(a0 b0:Int)(a1 b1:Int)(w:World):(Op.equalIn (d+2) 38 (.agg #[(Value.int .i64 a0),(Value.int .i64 a1)]) (.agg #[(Value.int .i64 b0),(Value.int .i64 b1)])).run pG w=.ok (decide (a0=b0∧a1=b1)) w:=by
  have u3:=Tryz.underlying3
  have i3:=Tryz.isAgg3
  have s3:=Tryz.sizeOf3
  have u2:=Tryz.underlying2
  have i2:=Tryz.isAgg2
  have s2:=Tryz.sizeOf2
  have hS:Tryz.prog.underlying 38=some (.struct (Tryz.prog.fieldsOf 38)):=by kernel_rfl
  rw [run_equalIn_agg w (d+1) 38 _ _ hS (by kernel_rfl)]
  simp only [Program.fieldsOf,Tryz.underlying38]
  go_simp
  try simp only [a9E]
  by_cases h0:a0=b0
  · by_cases h1:a1=b1
    · simp [h0,h1]
    · simp [h0,h1]
  · simp [h0]
theorem a6U(x y:Operand)(a0 b0:Int)(a1 b1:Int):Pu pG (xBin .eql 38 x y (.agg #[(Value.int .i64 a0),(Value.int .i64 a1)]) (.agg #[(Value.int .i64 b0),(Value.int .i64 b1)])) (.bool (decide (a0=b0∧a1=b1))):=by
  refine Pu.ok (s:=do eqGuard .eql 38 x y (.agg #[(Value.int .i64 a0),(Value.int .i64 a1)]) (.agg #[(Value.int .i64 b0),(Value.int .i64 b1)]);binOp .eql 38 (.agg #[(Value.int .i64 a0),(Value.int .i64 a1)]) (.agg #[(Value.int .i64 b0),(Value.int .i64 b1)])) fun w=>?_
  rw [Sem.run_bind,run_eqGuard_agg w _ _ _ _ _ _ (by kernel_rfl),Result.andThen_ok,run_eql_struct,show (10000:Nat)=9998+2 from rfl,b7J]
  rfl
theorem c1L(d:Nat)(a0 b0:Int)(a1 b1:Int)(a2 b2:Int)(a3 b3:Int)(a4 b4:Int)(a5 b5:Int)(a6 b6:Int)(a7 b7:Int)(a8 b8:Int)(a9 b9:Int)(w:World):(Op.equalIn (d+3) 40 (.agg #[(Value.int .i64 a0),(Value.int .i64 a1),(Value.int .i64 a2),(Value.int .i64 a3),(Value.int .i64 a4),(Value.int .i64 a5),(Value.int .i64 a6),(Value.int .i64 a7),(Value.int .i64 a8),(Value.int .i64 a9)]) (.agg #[(Value.int .i64 b0),(Value.int .i64 b1),(Value.int .i64 b2),(Value.int .i64 b3),(Value.int .i64 b4),(Value.int .i64 b5),(Value.int .i64 b6),(Value.int .i64 b7),(Value.int .i64 b8),(Value.int .i64 b9)])).run pG w=.ok (decide (a0=b0∧a1=b1∧a2=b2∧a3=b3∧a4=b4∧a5=b5∧a6=b6∧a7=b7∧a8=b8∧a9=b9)) w:=by
  have u3:=Tryz.underlying3
  have i3:=Tryz.isAgg3
  have s3:=Tryz.sizeOf3
  have u2:=Tryz.underlying2
  have i2:=Tryz.isAgg2
  have s2:=Tryz.sizeOf2
  have e38:=b7J d
  have i38:=Tryz.isAgg38
  have s38:=Tryz.sizeOf38
  have e38:=b7J d
  have i38:=Tryz.isAgg38
  have s38:=Tryz.sizeOf38
  have hS:Tryz.prog.underlying 40=some (.struct (Tryz.prog.fieldsOf 40)):=by kernel_rfl
  rw [run_equalIn_agg w (d+2) 40 _ _ hS (by kernel_rfl)]
  simp only [Program.fieldsOf,Tryz.underlying40]
  go_simp
  try simp only [a9E]
  by_cases h0:a0=b0
  · by_cases h1:a1=b1
    · by_cases h2:a2=b2
      · by_cases h3:a3=b3
        · by_cases h4:a4=b4
          · by_cases h5:a5=b5
            · by_cases h6:a6=b6
              · by_cases h7:a7=b7
                · by_cases h8:a8=b8
                  · by_cases h9:a9=b9
                    · simp [h0,h1,h2,h3,h4,h5,h6,h7,h8,h9]
                    · simp [h0,h1,h2,h3,h4,h5,h6,h7,h8,h9]
                  · simp [h0,h1,h2,h3,h4,h5,h6,h7,h8]
                · simp [h0,h1,h2,h3,h4,h5,h6,h7]
              · simp [h0,h1,h2,h3,h4,h5,h6]
            · simp [h0,h1,h2,h3,h4,h5]
          · simp [h0,h1,h2,h3,h4]
        · simp [h0,h1,h2,h3]
      · simp [h0,h1,h2]
    · simp [h0,h1]
  · simp [h0]
theorem c3w(x y:Operand)(a0 b0:Int)(a1 b1:Int)(a2 b2:Int)(a3 b3:Int)(a4 b4:Int)(a5 b5:Int)(a6 b6:Int)(a7 b7:Int)(a8 b8:Int)(a9 b9:Int):Pu pG (xBin .eql 40 x y (.agg #[(Value.int .i64 a0),(Value.int .i64 a1),(Value.int .i64 a2),(Value.int .i64 a3),(Value.int .i64 a4),(Value.int .i64 a5),(Value.int .i64 a6),(Value.int .i64 a7),(Value.int .i64 a8),(Value.int .i64 a9)]) (.agg #[(Value.int .i64 b0),(Value.int .i64 b1),(Value.int .i64 b2),(Value.int .i64 b3),(Value.int .i64 b4),(Value.int .i64 b5),(Value.int .i64 b6),(Value.int .i64 b7),(Value.int .i64 b8),(Value.int .i64 b9)])) (.bool (decide (a0=b0∧a1=b1∧a2=b2∧a3=b3∧a4=b4∧a5=b5∧a6=b6∧a7=b7∧a8=b8∧a9=b9))):=by
  refine Pu.ok (s:=do eqGuard .eql 40 x y (.agg #[(Value.int .i64 a0),(Value.int .i64 a1),(Value.int .i64 a2),(Value.int .i64 a3),(Value.int .i64 a4),(Value.int .i64 a5),(Value.int .i64 a6),(Value.int .i64 a7),(Value.int .i64 a8),(Value.int .i64 a9)]) (.agg #[(Value.int .i64 b0),(Value.int .i64 b1),(Value.int .i64 b2),(Value.int .i64 b3),(Value.int .i64 b4),(Value.int .i64 b5),(Value.int .i64 b6),(Value.int .i64 b7),(Value.int .i64 b8),(Value.int .i64 b9)]);binOp .eql 40 (.agg #[(Value.int .i64 a0),(Value.int .i64 a1),(Value.int .i64 a2),(Value.int .i64 a3),(Value.int .i64 a4),(Value.int .i64 a5),(Value.int .i64 a6),(Value.int .i64 a7),(Value.int .i64 a8),(Value.int .i64 a9)]) (.agg #[(Value.int .i64 b0),(Value.int .i64 b1),(Value.int .i64 b2),(Value.int .i64 b3),(Value.int .i64 b4),(Value.int .i64 b5),(Value.int .i64 b6),(Value.int .i64 b7),(Value.int .i64 b8),(Value.int .i64 b9)])) fun w=>?_
  rw [Sem.run_bind,run_eqGuard_agg w _ _ _ _ _ _ (by kernel_rfl),Result.andThen_ok,run_eql_struct,show (10000:Nat)=9997+3 from rfl,c1L]
  rfl
theorem c3x(x y:Operand)(a0 b0:Int)(a1 b1:Int)(a2 b2:Int)(a3 b3:Int)(a4 b4:Int)(a5 b5:Int)(a6 b6:Int)(a7 b7:Int)(a8 b8:Int)(a9 b9:Int):Pu pG (xBin .neq 40 x y (.agg #[(Value.int .i64 a0),(Value.int .i64 a1),(Value.int .i64 a2),(Value.int .i64 a3),(Value.int .i64 a4),(Value.int .i64 a5),(Value.int .i64 a6),(Value.int .i64 a7),(Value.int .i64 a8),(Value.int .i64 a9)]) (.agg #[(Value.int .i64 b0),(Value.int .i64 b1),(Value.int .i64 b2),(Value.int .i64 b3),(Value.int .i64 b4),(Value.int .i64 b5),(Value.int .i64 b6),(Value.int .i64 b7),(Value.int .i64 b8),(Value.int .i64 b9)])) (.bool (!decide (a0=b0∧a1=b1∧a2=b2∧a3=b3∧a4=b4∧a5=b5∧a6=b6∧a7=b7∧a8=b8∧a9=b9))):=by
  refine Pu.ok (s:=do eqGuard .neq 40 x y (.agg #[(Value.int .i64 a0),(Value.int .i64 a1),(Value.int .i64 a2),(Value.int .i64 a3),(Value.int .i64 a4),(Value.int .i64 a5),(Value.int .i64 a6),(Value.int .i64 a7),(Value.int .i64 a8),(Value.int .i64 a9)]) (.agg #[(Value.int .i64 b0),(Value.int .i64 b1),(Value.int .i64 b2),(Value.int .i64 b3),(Value.int .i64 b4),(Value.int .i64 b5),(Value.int .i64 b6),(Value.int .i64 b7),(Value.int .i64 b8),(Value.int .i64 b9)]);binOp .neq 40 (.agg #[(Value.int .i64 a0),(Value.int .i64 a1),(Value.int .i64 a2),(Value.int .i64 a3),(Value.int .i64 a4),(Value.int .i64 a5),(Value.int .i64 a6),(Value.int .i64 a7),(Value.int .i64 a8),(Value.int .i64 a9)]) (.agg #[(Value.int .i64 b0),(Value.int .i64 b1),(Value.int .i64 b2),(Value.int .i64 b3),(Value.int .i64 b4),(Value.int .i64 b5),(Value.int .i64 b6),(Value.int .i64 b7),(Value.int .i64 b8),(Value.int .i64 b9)])) fun w=>?_
  rw [Sem.run_bind,run_eqGuard_agg w _ _ _ _ _ _ (by kernel_rfl),Result.andThen_ok,run_neq_struct,show (10000:Nat)=9997+3 from rfl,c1L]
  rfl
theorem b2G  : Pu pG (xV (Instr.build 30 #[])) (.agg #[(Value.slice none 0 0),(Value.int .i64 0),(Value.slice none 0 0),(Value.int .i64 0),(Value.int .i64 0),(Value.slice none 0 0)]):=Pu.ok fun w=>by kernel_rfl
theorem b4O(a0a:Option Addr)(a0n a0c:Nat)(a2a:Option Addr)(a2n a2c:Nat)(a3:Int):Pu pG (xV (Instr.build 30 #[(0,(Value.slice a0a a0n a0c)),(2,(Value.slice a2a a2n a2c)),(3,(Value.int .i64 a3))])) (.agg #[(Value.slice a0a a0n a0c),(Value.int .i64 0),(Value.slice a2a a2n a2c),(Value.int .i64 a3),(Value.int .i64 0),(Value.slice none 0 0)]):=Pu.ok fun w=>by kernel_rfl
theorem a0R{g o:Nat}:Pu pG (xV (Instr.fieldAt 30 (.pointer (some ⟨g,o,none⟩)) 0)) (.pointer (some ⟨g,o+0,none⟩)):=Pu.ok fun w=>by kernel_rfl
theorem W9{g o:Nat}:Pu pG (xV (Instr.fieldAt 30 (.pointer (some ⟨g,o,none⟩)) 2)) (.pointer (some ⟨g,o+2,none⟩)):=Pu.ok fun w=>by kernel_rfl
abbrev f7(x:c8):List Value:=[(Value.int .i64 x.o4),(Value.int .i64 x.fTo),(Value.int .i64 x.d3),(Value.int .i64 x.O0),(Value.int .i64 x.K0),(Value.int .i64 x.fOp),(Value.int .i64 x.fA.r9),(Value.int .i64 x.fA.p6),(Value.int .i64 x.fB.r9),(Value.int .i64 x.fB.p6)]
theorem a1T(x:c8):(f7 x).length=10:=rfl
theorem a4b(x:c8):(f7 x).all (·.oneCell')=true:=rfl
theorem a9b{g o:Nat}:Pu pG (xV (Instr.fieldAt 25 (.pointer (some ⟨g,o,none⟩)) 1)) (.pointer (some ⟨g,o+1,none⟩)):=Pu.ok fun w=>by kernel_rfl
theorem a2Z(a:Option Addr)(n c:Nat):Pu pG (xBuiltin .len #[23] 3 [false] [.slice a n c]) (.int .i64 (n:Int)):=S0 Tryz.underlying23 a n c
abbrev o3(x:Int):List Value:=[(Value.int .i64 x)]
theorem G6(x:Int):(o3 x).length=1:=rfl
theorem G7(x:Int):(o3 x).all (·.oneCell')=true:=rfl
theorem a1z(a0:Int)(w:World):(Instr.buildSlice 44 1 #[(0,(Value.int .i64 a0))]).run pG w=.ok (.slice (some ⟨w.heap.size,0,none⟩) 1 1) (w.alloc (.cells [(Value.int .i64 a0)].toArray 3)):=by kernel_rfl
theorem c4z:Tryz.prog.info? 3=some ((Tryz.prog.info? 3).getD default):=by kernel_rfl
theorem a4G{E:Pan}{w0 w:World}{ps:Nat→Prop}{H0 H:Hp}{Fs:List Frag}{K:Value→World→Prop}{s:Sl}{xs:List Int}{F:Frag}{t2:Sl}{ys:List Int}{ks:List Bool}{ty:TypeId}(I:Inv w0 ps H0 H (F::Fs) w)(hr:RowL 3 1 o3 s xs F)(hs:SrcO w o3 t2 ys)(hb:(xs.length+ys.length)*9≤140737488355328)(h:∀(s':Sl)(F':Frag)(w':World),RowL 3 1 o3 s' (xs++ys) F'→Inv w0 ps H0 H (F'::Fs) w'→(∀k,k < w.heap.size→(∀p∈F,p.1≠k)→w'.heap[k]? = w.heap[k]?)→K (.slice s'.a s'.n s'.c) w'):opK pG E (xBuiltin .append #[44,44] ty ks [.slice s.a s.n s.c,.slice t2.a t2.n t2.c]) w K:=
  b3h (bytes:=8) Tryz.underlying44 c4z (z:=(Value.int .i64 0)) (by kernel_rfl) (by kernel_rfl) (by kernel_rfl) (by kernel_rfl) I hr hs hb h
theorem b4n{a:Option Addr}{g o:Nat}(ha:a=some ⟨g,o,none⟩)(len cap:Nat)(k:IntKind)(i:Int)(h0:0≤i)(h1:i < len):Pu pG (xV (Instr.indexAt 23 (.slice a len cap) (.int k i))) (.pointer (some ⟨g,o+i.toNat*6,none⟩)):=S8 Tryz.underlying23 Tryz.sizeOf60 ha len cap k i h0 h1
theorem L4{a:Option Addr}{g o:Nat}(ha:a=some ⟨g,o,none⟩)(len cap:Nat)(k:IntKind)(i:Int)(h0:0≤i)(h1:i < len):Pu pG (xV (Instr.indexAt 44 (.slice a len cap) (.int k i))) (.pointer (some ⟨g,o+i.toNat*1,none⟩)):=S8 Tryz.underlying44 Tryz.sizeOf3 ha len cap k i h0 h1
theorem a7m{g o:Nat}:Pu pG (xV (Instr.fieldAt 60 (.pointer (some ⟨g,o,none⟩)) 0)) (.pointer (some ⟨g,o+0,none⟩)):=Pu.ok fun w=>by kernel_rfl
theorem b9U(a4F:Int)(a1d:Int)(b7K:Int)(b2H:Int)(b2I:Int)(c7a:Int)(c1M:Int)(c1N:Int)(c1O:Int)(c1P:Int)(w:World):(Instr.buildSlice 28 1 #[(0,(Value.agg #[(Value.int .i64 a4F),(Value.int .i64 a1d),(Value.int .i64 b7K),(Value.int .i64 b2H),(Value.int .i64 b2I),(Value.int .i64 c7a),(Value.int .i64 c1M),(Value.int .i64 c1N),(Value.int .i64 c1O),(Value.int .i64 c1P)]))]).run pG w=.ok (.slice (some ⟨w.heap.size,0,none⟩) 1 1) (w.alloc (.cells [(Value.int .i64 a4F),(Value.int .i64 a1d),(Value.int .i64 b7K),(Value.int .i64 b2H),(Value.int .i64 b2I),(Value.int .i64 c7a),(Value.int .i64 c1M),(Value.int .i64 c1N),(Value.int .i64 c1O),(Value.int .i64 c1P)].toArray 40)):=by kernel_rfl
theorem c7b:Tryz.prog.info? 40=some ((Tryz.prog.info? 40).getD default):=by kernel_rfl
theorem b7L{E:Pan}{w0 w:World}{ps:Nat→Prop}{H0 H:Hp}{Fs:List Frag}{K:Value→World→Prop}{s:Sl}{xs:List c8}{F:Frag}{t2:Sl}{ys:List c8}{ks:List Bool}{ty:TypeId}(I:Inv w0 ps H0 H (F::Fs) w)(hr:RowL 40 10 f7 s xs F)(hs:SrcO w f7 t2 ys)(hb:(xs.length+ys.length)*81≤140737488355328)(h:∀(s':Sl)(F':Frag)(w':World),RowL 40 10 f7 s' (xs++ys) F'→Inv w0 ps H0 H (F'::Fs) w'→(∀k,k < w.heap.size→(∀p∈F,p.1≠k)→w'.heap[k]? = w.heap[k]?)→K (.slice s'.a s'.n s'.c) w'):opK pG E (xBuiltin .append #[28,28] ty ks [.slice s.a s.n s.c,.slice t2.a t2.n t2.c]) w K:=
  b3h (bytes:=80) Tryz.underlying28 c7b (z:=(Value.agg #[(Value.int .i64 0),(Value.int .i64 0),(Value.int .i64 0),(Value.int .i64 0),(Value.int .i64 0),(Value.int .i64 0),(Value.int .i64 0),(Value.int .i64 0),(Value.int .i64 0),(Value.int .i64 0)])) (by kernel_rfl) (by kernel_rfl) (by kernel_rfl) (by kernel_rfl) I hr hs hb h
theorem a7n{g o:Nat}:Pu pG (xV (Instr.fieldAt 60 (.pointer (some ⟨g,o,none⟩)) 2)) (.pointer (some ⟨g,o+2,none⟩)):=Pu.ok fun w=>by kernel_rfl
theorem a4m{a:Option Addr}{g o:Nat}(ha:a=some ⟨g,o,none⟩)(len cap:Nat)(k:IntKind)(i:Int)(h0:0≤i)(h1:i < len):Pu pG (xV (Instr.indexAt 57 (.slice a len cap) (.int k i))) (.pointer (some ⟨g,o+i.toNat*4,none⟩)):=S8 Tryz.underlying57 Tryz.sizeOf123 ha len cap k i h0 h1
theorem W6{g o:Nat}:Pu pG (xV (Instr.fieldAt 123 (.pointer (some ⟨g,o,none⟩)) 0)) (.pointer (some ⟨g,o+0,none⟩)):=Pu.ok fun w=>by kernel_rfl
theorem a8g{g o:Nat}:Pu pG (xV (Instr.fieldAt 123 (.pointer (some ⟨g,o,none⟩)) 1)) (.pointer (some ⟨g,o+1,none⟩)):=Pu.ok fun w=>by kernel_rfl
theorem b2u(a0:Int)(a1:Int):Pu pG (xV (Instr.build 38 #[(0,(Value.int .i64 a0)),(1,(Value.int .i64 a1))])) (.agg #[(Value.int .i64 a0),(Value.int .i64 a1)]):=Pu.ok fun w=>by kernel_rfl
theorem a3b{g o:Nat}:Pu pG (xV (Instr.fieldAt 123 (.pointer (some ⟨g,o,none⟩)) 3)) (.pointer (some ⟨g,o+3,none⟩)):=Pu.ok fun w=>by kernel_rfl
theorem a5B{g o:Nat}:Pu pG (xV (Instr.fieldAt 123 (.pointer (some ⟨g,o,none⟩)) 2)) (.pointer (some ⟨g,o+2,none⟩)):=Pu.ok fun w=>by kernel_rfl
theorem a1e(a:Option Addr)(n c:Nat):Pu pG (xBuiltin .len #[27] 3 [false] [.slice a n c]) (.int .i64 (n:Int)):=S0 Tryz.underlying27 a n c
theorem b1z{a:Option Addr}{g o:Nat}(ha:a=some ⟨g,o,none⟩)(len cap:Nat)(k:IntKind)(i:Int)(h0:0≤i)(h1:i < len):Pu pG (xV (Instr.indexAt 27 (.slice a len cap) (.int k i))) (.pointer (some ⟨g,o+i.toNat*1,none⟩)):=S8 Tryz.underlying27 Tryz.sizeOf9 ha len cap k i h0 h1
theorem a4e{g o:Nat}:Pu pG (xV (Instr.fieldAt 60 (.pointer (some ⟨g,o,none⟩)) 1)) (.pointer (some ⟨g,o+1,none⟩)):=Pu.ok fun w=>by kernel_rfl
theorem a4R{g o:Nat}:Pu pG (xV (Instr.fieldAt 40 (.pointer (some ⟨g,o,none⟩)) 3)) (.pointer (some ⟨g,o+3,none⟩)):=Pu.ok fun w=>by kernel_rfl
theorem Y6(a:Option Addr)(n c:Nat):Pu pG (xBuiltin .len #[22] 3 [false] [.slice a n c]) (.int .i64 (n:Int)):=S0 Tryz.underlying22 a n c
theorem a1U{a:Option Addr}{g o:Nat}(ha:a=some ⟨g,o,none⟩)(len cap:Nat)(k:IntKind)(i:Int)(h0:0≤i)(h1:i < len):Pu pG (xV (Instr.indexAt 22 (.slice a len cap) (.int k i))) (.pointer (some ⟨g,o+i.toNat*2,none⟩)):=S8 Tryz.underlying22 Tryz.sizeOf70 ha len cap k i h0 h1
theorem a4f{g o:Nat}:Pu pG (xV (Instr.fieldAt 70 (.pointer (some ⟨g,o,none⟩)) 0)) (.pointer (some ⟨g,o+0,none⟩)):=Pu.ok fun w=>by kernel_rfl
theorem a4S{g o:Nat}:Pu pG (xV (Instr.fieldAt 40 (.pointer (some ⟨g,o,none⟩)) 4)) (.pointer (some ⟨g,o+4,none⟩)):=Pu.ok fun w=>by kernel_rfl
theorem X0{g o:Nat}:Pu pG (xV (Instr.fieldAt 30 (.pointer (some ⟨g,o,none⟩)) 1)) (.pointer (some ⟨g,o+1,none⟩)):=Pu.ok fun w=>by kernel_rfl
theorem X1{g o:Nat}:Pu pG (xV (Instr.fieldAt 40 (.pointer (some ⟨g,o,none⟩)) 6)) (.pointer (some ⟨g,o+6,none⟩)):=Pu.ok fun w=>by kernel_rfl
theorem K2{g o:Nat}:Pu pG (xV (Instr.fieldAt 40 (.pointer (some ⟨g,o,none⟩)) 0)) (.pointer (some ⟨g,o+0,none⟩)):=Pu.ok fun w=>by kernel_rfl
theorem a0S{g o:Nat}:Pu pG (xV (Instr.fieldAt 40 (.pointer (some ⟨g,o,none⟩)) 7)) (.pointer (some ⟨g,o+8,none⟩)):=Pu.ok fun w=>by kernel_rfl
theorem a4T{g o:Nat}:Pu pG (xV (Instr.fieldAt 60 (.pointer (some ⟨g,o,none⟩)) 4)) (.pointer (some ⟨g,o+4,none⟩)):=Pu.ok fun w=>by kernel_rfl
theorem a6p{g o:Nat}:Pu pG (xV (Instr.fieldAt 60 (.pointer (some ⟨g,o,none⟩)) 5)) (.pointer (some ⟨g,o+5,none⟩)):=Pu.ok fun w=>by kernel_rfl
theorem a4U{g o:Nat}:Pu pG (xV (Instr.fieldAt 60 (.pointer (some ⟨g,o,none⟩)) 3)) (.pointer (some ⟨g,o+3,none⟩)):=Pu.ok fun w=>by kernel_rfl
theorem a1V{a:Option Addr}{g o:Nat}(ha:a=some ⟨g,o,none⟩)(len cap:Nat)(k:IntKind)(i:Int)(h0:0≤i)(h1:i < len):Pu pG (xV (Instr.indexAt 58 (.slice a len cap) (.int k i))) (.pointer (some ⟨g,o+i.toNat*4,none⟩)):=S8 Tryz.underlying58 Tryz.sizeOf131 ha len cap k i h0 h1
theorem b0H{g o:Nat}:Pu pG (xV (Instr.fieldAt 131 (.pointer (some ⟨g,o,none⟩)) 0)) (.pointer (some ⟨g,o+0,none⟩)):=Pu.ok fun w=>by kernel_rfl
theorem a3d{g o:Nat}:Pu pG (xV (Instr.fieldAt 131 (.pointer (some ⟨g,o,none⟩)) 3)) (.pointer (some ⟨g,o+3,none⟩)):=Pu.ok fun w=>by kernel_rfl
theorem a8h{g o:Nat}:Pu pG (xV (Instr.fieldAt 131 (.pointer (some ⟨g,o,none⟩)) 2)) (.pointer (some ⟨g,o+2,none⟩)):=Pu.ok fun w=>by kernel_rfl
theorem a6N{g o:Nat}:Pu pG (xV (Instr.fieldAt 131 (.pointer (some ⟨g,o,none⟩)) 1)) (.pointer (some ⟨g,o+1,none⟩)):=Pu.ok fun w=>by kernel_rfl
theorem X2{g o:Nat}:Pu pG (xV (Instr.fieldAt 40 (.pointer (some ⟨g,o,none⟩)) 5)) (.pointer (some ⟨g,o+5,none⟩)):=Pu.ok fun w=>by kernel_rfl
theorem X3{g o:Nat}:Pu pG (xV (Instr.fieldAt 40 (.pointer (some ⟨g,o,none⟩)) 1)) (.pointer (some ⟨g,o+1,none⟩)):=Pu.ok fun w=>by kernel_rfl
theorem a4g{g o:Nat}:Pu pG (xV (Instr.fieldAt 70 (.pointer (some ⟨g,o,none⟩)) 1)) (.pointer (some ⟨g,o+1,none⟩)):=Pu.ok fun w=>by kernel_rfl
theorem c7c:Tryz.prog.info? 44=some ((Tryz.prog.info? 44).getD default):=by kernel_rfl
theorem b4P{E:Pan}{w0 w:World}{ps:Nat→Prop}{H0 H:Hp}{Fs:List Frag}{K:Value→World→Prop}{kl kc:IntKind}{n:Int}(I:Inv w0 ps H0 H Fs w)(hn:0≤n)(hb:n*25≤140737488355328)(h:∀(s':Sl)(F':Frag)(w':World),RowL 44 1 csl s' (List.replicate n.toNat (Sl.mk none 0 0)) F'→Inv w0 ps H0 H (F'::Fs) w'→(∀k,k < w.heap.size→w'.heap[k]? = w.heap[k]?)→K (.slice s'.a s'.n s'.c) w'):opK pG E (xV (Instr.makeSlice 83 (.int kl n) (.int kc n))) w K:=
  b4J (bytes:=24) (x0:=(Sl.mk none 0 0)) Tryz.underlying83 c7c (z:=(Value.slice none 0 0)) (by kernel_rfl) (by kernel_rfl) (by kernel_rfl) (by kernel_rfl) I b3i b3j (by decide) kl kc n hn hb h
theorem a1W{a:Option Addr}{g o:Nat}(ha:a=some ⟨g,o,none⟩)(len cap:Nat)(k:IntKind)(i:Int)(h0:0≤i)(h1:i < len):Pu pG (xV (Instr.indexAt 83 (.slice a len cap) (.int k i))) (.pointer (some ⟨g,o+i.toNat*1,none⟩)):=S8 Tryz.underlying83 Tryz.sizeOf44 ha len cap k i h0 h1
abbrev y9(x:ByteArray):List Value:=[(Value.string x)]
theorem a5C(x:ByteArray):(y9 x).length=1:=rfl
theorem a6O(x:ByteArray):(y9 x).all (·.oneCell')=true:=rfl
theorem c9H:Tryz.prog.info? 9=some ((Tryz.prog.info? 9).getD default):=by kernel_rfl
theorem b7M{E:Pan}{w0 w:World}{ps:Nat→Prop}{H0 H:Hp}{Fs:List Frag}{K:Value→World→Prop}{s:Sl}{xs:List ByteArray}{F:Frag}{t2:Sl}{ys:List ByteArray}{ks:List Bool}{ty:TypeId}(I:Inv w0 ps H0 H (F::Fs) w)(hr:RowL 9 1 y9 s xs F)(hs:SrcO w y9 t2 ys)(hb:(xs.length+ys.length)*17≤140737488355328)(h:∀(s':Sl)(F':Frag)(w':World),RowL 9 1 y9 s' (xs++ys) F'→Inv w0 ps H0 H (F'::Fs) w'→(∀k,k < w.heap.size→(∀p∈F,p.1≠k)→w'.heap[k]? = w.heap[k]?)→K (.slice s'.a s'.n s'.c) w'):opK pG E (xBuiltin .append #[27,27] ty ks [.slice s.a s.n s.c,.slice t2.a t2.n t2.c]) w K:=
  b3h (bytes:=16) Tryz.underlying27 c9H (z:=(Value.string ⟨#[]⟩)) (by kernel_rfl) (by kernel_rfl) (by kernel_rfl) (by kernel_rfl) I hr hs hb h
abbrev i5(x:j8):List Value:=[(Value.string x.i7),(Value.int .i64 x.E1)]
theorem a5t(x:j8):(i5 x).length=2:=rfl
theorem a8N(x:j8):(i5 x).all (·.oneCell')=true:=rfl
theorem c7d:Tryz.prog.info? 70=some ((Tryz.prog.info? 70).getD default):=by kernel_rfl
theorem c1Q{E:Pan}{w0 w:World}{ps:Nat→Prop}{H0 H:Hp}{Fs:List Frag}{K:Value→World→Prop}{s:Sl}{xs:List j8}{F:Frag}{t2:Sl}{ys:List j8}{ks:List Bool}{ty:TypeId}(I:Inv w0 ps H0 H (F::Fs) w)(hr:RowL 70 2 i5 s xs F)(hs:SrcO w i5 t2 ys)(hb:(xs.length+ys.length)*25≤140737488355328)(h:∀(s':Sl)(F':Frag)(w':World),RowL 70 2 i5 s' (xs++ys) F'→Inv w0 ps H0 H (F'::Fs) w'→(∀k,k < w.heap.size→(∀p∈F,p.1≠k)→w'.heap[k]? = w.heap[k]?)→K (.slice s'.a s'.n s'.c) w'):opK pG E (xBuiltin .append #[22,22] ty ks [.slice s.a s.n s.c,.slice t2.a t2.n t2.c]) w K:=
  b3h (bytes:=24) Tryz.underlying22 c7d (z:=(Value.agg #[(Value.string ⟨#[]⟩),(Value.int .i64 0)])) (by kernel_rfl) (by kernel_rfl) (by kernel_rfl) (by kernel_rfl) I hr hs hb h
abbrev E5(x:Bool):List Value:=[(Value.bool x)]
theorem c1R(x:Bool):(E5 x).length=1:=rfl
theorem c1S(x:Bool):(E5 x).all (·.oneCell')=true:=rfl
theorem c9I:Tryz.prog.info? 4=some ((Tryz.prog.info? 4).getD default):=by kernel_rfl
theorem b0Z{E:Pan}{w0 w:World}{ps:Nat→Prop}{H0 H:Hp}{Fs:List Frag}{K:Value→World→Prop}{kl kc:IntKind}{n:Int}(I:Inv w0 ps H0 H Fs w)(hn:0≤n)(hb:n*2≤140737488355328)(h:∀(s':Sl)(F':Frag)(w':World),RowL 4 1 E5 s' (List.replicate n.toNat false) F'→Inv w0 ps H0 H (F'::Fs) w'→(∀k,k < w.heap.size→w'.heap[k]? = w.heap[k]?)→K (.slice s'.a s'.n s'.c) w'):opK pG E (xV (Instr.makeSlice 47 (.int kl n) (.int kc n))) w K:=
  b4J (bytes:=1) (x0:=false) Tryz.underlying47 c9I (z:=(Value.bool false)) (by kernel_rfl) (by kernel_rfl) (by kernel_rfl) (by kernel_rfl) I c1R c1S (by decide) kl kc n hn hb h
theorem c1T{E:Pan}{w0 w:World}{ps:Nat→Prop}{H0 H:Hp}{Fs:List Frag}{K:Value→World→Prop}{kl kc:IntKind}{n:Int}(I:Inv w0 ps H0 H Fs w)(hn:0≤n)(hb:n*9≤140737488355328)(h:∀(s':Sl)(F':Frag)(w':World),RowL 3 1 o3 s' (List.replicate n.toNat 0) F'→Inv w0 ps H0 H (F'::Fs) w'→(∀k,k < w.heap.size→w'.heap[k]? = w.heap[k]?)→K (.slice s'.a s'.n s'.c) w'):opK pG E (xV (Instr.makeSlice 44 (.int kl n) (.int kc n))) w K:=
  b4J (bytes:=8) (x0:=0) Tryz.underlying44 c4z (z:=(Value.int .i64 0)) (by kernel_rfl) (by kernel_rfl) (by kernel_rfl) (by kernel_rfl) I G6 G7 (by decide) kl kc n hn hb h
theorem b9C(a0_0a:Option Addr)(a0_0n a0_0c:Nat)(a1d:Int)(a0_2a:Option Addr)(a0_2n a0_2c:Nat)(b2H:Int)(b2I:Int)(a0_5a:Option Addr)(a0_5n a0_5c:Nat):Pu pG (xV (Instr.build 90 #[(0,(Value.agg #[(Value.slice a0_0a a0_0n a0_0c),(Value.int .i64 a1d),(Value.slice a0_2a a0_2n a0_2c),(Value.int .i64 b2H),(Value.int .i64 b2I),(Value.slice a0_5a a0_5n a0_5c)]))])) (.agg #[(Value.slice a0_0a a0_0n a0_0c),(Value.int .i64 a1d),(Value.slice a0_2a a0_2n a0_2c),(Value.int .i64 b2H),(Value.int .i64 b2I),(Value.slice a0_5a a0_5n a0_5c)]):=Pu.ok fun w=>by kernel_rfl
theorem c7e:Tryz.prog.info? 28=some ((Tryz.prog.info? 28).getD default):=by kernel_rfl
theorem c7f{E:Pan}{w0 w:World}{ps:Nat→Prop}{H0 H:Hp}{Fs:List Frag}{K:Value→World→Prop}{kl kc:IntKind}{n:Int}(I:Inv w0 ps H0 H Fs w)(hn:0≤n)(hb:n*25≤140737488355328)(h:∀(s':Sl)(F':Frag)(w':World),RowL 28 1 csl s' (List.replicate n.toNat (Sl.mk none 0 0)) F'→Inv w0 ps H0 H (F'::Fs) w'→(∀k,k < w.heap.size→w'.heap[k]? = w.heap[k]?)→K (.slice s'.a s'.n s'.c) w'):opK pG E (xV (Instr.makeSlice 92 (.int kl n) (.int kc n))) w K:=
  b4J (bytes:=24) (x0:=(Sl.mk none 0 0)) Tryz.underlying92 c7e (z:=(Value.slice none 0 0)) (by kernel_rfl) (by kernel_rfl) (by kernel_rfl) (by kernel_rfl) I b3i b3j (by decide) kl kc n hn hb h
theorem b4o{a:Option Addr}{g o:Nat}(ha:a=some ⟨g,o,none⟩)(len cap:Nat)(k:IntKind)(i:Int)(h0:0≤i)(h1:i < len):Pu pG (xV (Instr.indexAt 92 (.slice a len cap) (.int k i))) (.pointer (some ⟨g,o+i.toNat*1,none⟩)):=S8 Tryz.underlying92 Tryz.sizeOf28 ha len cap k i h0 h1
theorem a9c{g o:Nat}:Pu pG (xV (Instr.fieldAt 96 (.pointer (some ⟨g,o,none⟩)) 2)) (.pointer (some ⟨g,o+7,none⟩)):=Pu.ok fun w=>by kernel_rfl
theorem a9d{g o:Nat}:Pu pG (xV (Instr.fieldAt 96 (.pointer (some ⟨g,o,none⟩)) 3)) (.pointer (some ⟨g,o+8,none⟩)):=Pu.ok fun w=>by kernel_rfl
theorem b9V(a0:ByteArray)(w:World):(Instr.buildSlice 27 1 #[(0,(Value.string a0))]).run pG w=.ok (.slice (some ⟨w.heap.size,0,none⟩) 1 1) (w.alloc (.cells [(Value.string a0)].toArray 9)):=by kernel_rfl
theorem N2{g o:Nat}:Pu pG (xV (Instr.fieldAt 68 (.pointer (some ⟨g,o,none⟩)) 0)) (.pointer (some ⟨g,o+0,none⟩)):=Pu.ok fun w=>by kernel_rfl
theorem b1A{g o:Nat}:Pu pG (xV (Instr.fieldAt 68 (.pointer (some ⟨g,o,none⟩)) 1)) (.pointer (some ⟨g,o+6,none⟩)):=Pu.ok fun w=>by kernel_rfl
theorem a4Q(a:Option Addr)(n c:Nat):Pu pG (xBuiltin .len #[57] 3 [false] [.slice a n c]) (.int .i64 (n:Int)):=S0 Tryz.underlying57 a n c
theorem a4V{g o:Nat}:Pu pG (xV (Instr.fieldAt 38 (.pointer (some ⟨g,o,none⟩)) 0)) (.pointer (some ⟨g,o+0,none⟩)):=Pu.ok fun w=>by kernel_rfl
theorem b1B{g o:Nat}:Pu pG (xV (Instr.fieldAt 68 (.pointer (some ⟨g,o,none⟩)) 2)) (.pointer (some ⟨g,o+7,none⟩)):=Pu.ok fun w=>by kernel_rfl
theorem b1C{g o:Nat}:Pu pG (xV (Instr.fieldAt 25 (.pointer (some ⟨g,o,none⟩)) 0)) (.pointer (some ⟨g,o+0,none⟩)):=Pu.ok fun w=>by kernel_rfl
theorem c7g(d:Nat)(a0 b0:ByteArray)(a1 b1:Int)(w:World):(Op.equalIn (d+2) 70 (.agg #[(Value.string a0),(Value.int .i64 a1)]) (.agg #[(Value.string b0),(Value.int .i64 b1)])).run pG w=.ok (decide (a0=b0∧a1=b1)) w:=by
  have u9:=Tryz.underlying9
  have i9:=Tryz.isAgg9
  have s9:=Tryz.sizeOf9
  have u3:=Tryz.underlying3
  have i3:=Tryz.isAgg3
  have s3:=Tryz.sizeOf3
  have hS:Tryz.prog.underlying 70=some (.struct (Tryz.prog.fieldsOf 70)):=by kernel_rfl
  rw [run_equalIn_agg w (d+1) 70 _ _ hS (by kernel_rfl)]
  simp only [Program.fieldsOf,Tryz.underlying70]
  go_simp
  try simp only [a9E]
  by_cases h0:a0=b0
  · by_cases h1:a1=b1
    · simp [h0,h1]
    · simp [h0,h1]
  · simp [h0]
theorem c3y(x y:Operand)(a0 b0:ByteArray)(a1 b1:Int):Pu pG (xBin .neq 70 x y (.agg #[(Value.string a0),(Value.int .i64 a1)]) (.agg #[(Value.string b0),(Value.int .i64 b1)])) (.bool (!decide (a0=b0∧a1=b1))):=by
  refine Pu.ok (s:=do eqGuard .neq 70 x y (.agg #[(Value.string a0),(Value.int .i64 a1)]) (.agg #[(Value.string b0),(Value.int .i64 b1)]);binOp .neq 70 (.agg #[(Value.string a0),(Value.int .i64 a1)]) (.agg #[(Value.string b0),(Value.int .i64 b1)])) fun w=>?_
  rw [Sem.run_bind,run_eqGuard_agg w _ _ _ _ _ _ (by kernel_rfl),Result.andThen_ok,run_neq_struct,show (10000:Nat)=9998+2 from rfl,c7g]
  rfl
theorem a7o{g o:Nat}:Pu pG (xV (Instr.fieldAt 90 (.pointer (some ⟨g,o,none⟩)) 0)) (.pointer (some ⟨g,o+0,none⟩)):=Pu.ok fun w=>by kernel_rfl
theorem a8i{g o:Nat}:Pu pG (xV (Instr.fieldAt 110 (.pointer (some ⟨g,o,none⟩)) 0)) (.pointer (some ⟨g,o+0,none⟩)):=Pu.ok fun w=>by kernel_rfl
theorem b0I{g o:Nat}:Pu pG (xV (Instr.fieldAt 110 (.pointer (some ⟨g,o,none⟩)) 1)) (.pointer (some ⟨g,o+1,none⟩)):=Pu.ok fun w=>by kernel_rfl
theorem b4a{g o:Nat}:Pu pG (xV (Instr.fieldAt 110 (.pointer (some ⟨g,o,none⟩)) 2)) (.pointer (some ⟨g,o+2,none⟩)):=Pu.ok fun w=>by kernel_rfl
theorem b9D{g o:Nat}:Pu pG (xV (Instr.fieldAt 110 (.pointer (some ⟨g,o,none⟩)) 3)) (.pointer (some ⟨g,o+3,none⟩)):=Pu.ok fun w=>by kernel_rfl
theorem a8j{g o:Nat}:Pu pG (xV (Instr.fieldAt 110 (.pointer (some ⟨g,o,none⟩)) 4)) (.pointer (some ⟨g,o+4,none⟩)):=Pu.ok fun w=>by kernel_rfl
theorem b0y(a0_0a:Option Addr)(a0_0n a0_0c:Nat)(a1d:Int)(a0_2a:Option Addr)(a0_2n a0_2c:Nat)(b2H:Int)(b2I:Int)(a0_5a:Option Addr)(a0_5n a0_5c:Nat)(a1a:Option Addr)(a1n a1c:Nat)(a2a:Option Addr)(a2n a2c:Nat):Pu pG (xV (Instr.build 96 #[(0,(Value.agg #[(Value.slice a0_0a a0_0n a0_0c),(Value.int .i64 a1d),(Value.slice a0_2a a0_2n a0_2c),(Value.int .i64 b2H),(Value.int .i64 b2I),(Value.slice a0_5a a0_5n a0_5c)])),(1,(Value.slice a1a a1n a1c)),(2,(Value.slice a2a a2n a2c))])) (.agg #[(Value.slice a0_0a a0_0n a0_0c),(Value.int .i64 a1d),(Value.slice a0_2a a0_2n a0_2c),(Value.int .i64 b2H),(Value.int .i64 b2I),(Value.slice a0_5a a0_5n a0_5c),(Value.slice a1a a1n a1c),(Value.slice a2a a2n a2c),(Value.slice none 0 0)]):=Pu.ok fun w=>by kernel_rfl
theorem a9e{g o:Nat}:Pu pG (xV (Instr.fieldAt 96 (.pointer (some ⟨g,o,none⟩)) 1)) (.pointer (some ⟨g,o+6,none⟩)):=Pu.ok fun w=>by kernel_rfl
theorem c0B{g o:Nat}:Pu pG (xV (Instr.fieldAt 96 (.pointer (some ⟨g,o,none⟩)) 0)) (.pointer (some ⟨g,o+0,none⟩)):=Pu.ok fun w=>by kernel_rfl
theorem a8q(a:Option Addr)(n c:Nat):Pu pG (xBuiltin .len #[58] 3 [false] [.slice a n c]) (.int .i64 (n:Int)):=S0 Tryz.underlying58 a n c
theorem b4Q{g o:Nat}:Pu pG (xV (Instr.fieldAt 38 (.pointer (some ⟨g,o,none⟩)) 1)) (.pointer (some ⟨g,o+1,none⟩)):=Pu.ok fun w=>by kernel_rfl
theorem b7N(a3:Bool):Pu pG (xV (Instr.build 110 #[(3,(Value.bool a3))])) (.agg #[(Value.bool false),(Value.bool false),(Value.bool false),(Value.bool a3),(Value.bool false)]):=Pu.ok fun w=>by kernel_rfl
theorem b7O(a0:Bool):Pu pG (xV (Instr.build 110 #[(0,(Value.bool a0))])) (.agg #[(Value.bool a0),(Value.bool false),(Value.bool false),(Value.bool false),(Value.bool false)]):=Pu.ok fun w=>by kernel_rfl
theorem c0C  : Pu pG (xV (Instr.build 110 #[])) (.agg #[(Value.bool false),(Value.bool false),(Value.bool false),(Value.bool false),(Value.bool false)]):=Pu.ok fun w=>by kernel_rfl
theorem a9H(a0 a1 a2 a3 a4 a5 a6:Int):Pu pG (xV (Instr.build 148 #[(0,.int .i64 a0),(1,.int .i64 a1),(2,.int .i64 a2),(3,.int .i64 a3),(4,.int .i64 a4),(5,.int .i64 a5),(6,.int .i64 a6)])) (.agg #[.int .i64 a0,.int .i64 a1,.int .i64 a2,.int .i64 a3,.int .i64 a4,.int .i64 a5,.int .i64 a6]):=Pu.ok fun w=>by kernel_rfl
theorem c0D(a0 a1 a2 a3 a4 a5 a6:Int)(k:IntKind)(i:Int)(h0:0≤i)(h1:i < 7):Pu pG (xV (Instr.index 148 (.agg #[.int .i64 a0,.int .i64 a1,.int .i64 a2,.int .i64 a3,.int .i64 a4,.int .i64 a5,.int .i64 a6]) (.int k i))) (.int .i64 (([a0,a1,a2,a3,a4,a5,a6]:List Int).getD i.toNat 0)):=by
  obtain rfl | rfl | rfl | rfl | rfl | rfl | rfl:=(by omega:i=0∨i=1∨i=2∨i=3∨i=4∨i=5∨i=6)
  · exact Pu.ok fun w=>by kernel_rfl
  · exact Pu.ok fun w=>by kernel_rfl
  · exact Pu.ok fun w=>by kernel_rfl
  · exact Pu.ok fun w=>by kernel_rfl
  · exact Pu.ok fun w=>by kernel_rfl
  · exact Pu.ok fun w=>by kernel_rfl
  · exact Pu.ok fun w=>by kernel_rfl
theorem c0E  : Pu pG (xV (Instr.build 155 #[])) (.agg #[(Value.slice none 0 0)]):=Pu.ok fun w=>by kernel_rfl
abbrev z8(x:f8):List Value:=[(Value.string x.fname),(Value.int .i64 x.fas)]
theorem a5u(x:f8):(z8 x).length=2:=rfl
theorem a5v(x:f8):(z8 x).all (·.oneCell')=true:=rfl
theorem a0T{g o:Nat}:Pu pG (xV (Instr.fieldAt 155 (.pointer (some ⟨g,o,none⟩)) 0)) (.pointer (some ⟨g,o+0,none⟩)):=Pu.ok fun w=>by kernel_rfl
theorem a6q(a0:ByteArray)(a1:Int):Pu pG (xV (Instr.build 158 #[(0,(Value.string a0)),(1,(Value.int .i64 a1))])) (.agg #[(Value.string a0),(Value.int .i64 a1)]):=Pu.ok fun w=>by kernel_rfl
theorem b1D(a4F:ByteArray)(a1d:Int)(w:World):(Instr.buildSlice 153 1 #[(0,(Value.agg #[(Value.string a4F),(Value.int .i64 a1d)]))]).run pG w=.ok (.slice (some ⟨w.heap.size,0,none⟩) 1 1) (w.alloc (.cells [(Value.string a4F),(Value.int .i64 a1d)].toArray 158)):=by kernel_rfl
theorem c5A:Tryz.prog.info? 158=some ((Tryz.prog.info? 158).getD default):=by kernel_rfl
theorem b3m{E:Pan}{w0 w:World}{ps:Nat→Prop}{H0 H:Hp}{Fs:List Frag}{K:Value→World→Prop}{s:Sl}{xs:List f8}{F:Frag}{t2:Sl}{ys:List f8}{ks:List Bool}{ty:TypeId}(I:Inv w0 ps H0 H (F::Fs) w)(hr:RowL 158 2 z8 s xs F)(hs:SrcO w z8 t2 ys)(hb:(xs.length+ys.length)*25≤140737488355328)(h:∀(s':Sl)(F':Frag)(w':World),RowL 158 2 z8 s' (xs++ys) F'→Inv w0 ps H0 H (F'::Fs) w'→(∀k,k < w.heap.size→(∀p∈F,p.1≠k)→w'.heap[k]? = w.heap[k]?)→K (.slice s'.a s'.n s'.c) w'):opK pG E (xBuiltin .append #[153,153] ty ks [.slice s.a s.n s.c,.slice t2.a t2.n t2.c]) w K:=
  b3h (bytes:=24) Tryz.underlying153 c5A (z:=(Value.agg #[(Value.string ⟨#[]⟩),(Value.int .i64 0)])) (by kernel_rfl) (by kernel_rfl) (by kernel_rfl) (by kernel_rfl) I hr hs hb h
theorem c1U{a:Option Addr}{g o:Nat}(ha:a=some ⟨g,o,none⟩)(len cap:Nat)(k:IntKind)(i:Int)(h0:0≤i)(h1:i < len):Pu pG (xV (Instr.indexAt 153 (.slice a len cap) (.int k i))) (.pointer (some ⟨g,o+i.toNat*2,none⟩)):=S8 Tryz.underlying153 Tryz.sizeOf158 ha len cap k i h0 h1
theorem b0J{g o:Nat}:Pu pG (xV (Instr.fieldAt 158 (.pointer (some ⟨g,o,none⟩)) 0)) (.pointer (some ⟨g,o+0,none⟩)):=Pu.ok fun w=>by kernel_rfl
theorem b9E{g o:Nat}:Pu pG (xV (Instr.fieldAt 158 (.pointer (some ⟨g,o,none⟩)) 1)) (.pointer (some ⟨g,o+1,none⟩)):=Pu.ok fun w=>by kernel_rfl
theorem b9F(x y:Operand)(s:Sl):Pu pG (xBin .eql 22 x y (vs s) (.slice none 0 0)) (.bool s.a.isNone):=c1J _ _ _ s Tryz.underlying22
theorem c5B(w:World):(Instr.buildSlice 22 0 #[]).run pG w=.ok (.slice (some ⟨w.heap.size,0,none⟩) 0 0) (w.alloc (.cells [].toArray 70)):=by kernel_rfl
theorem b0n(a0:Int)(a1:Int)(a2:Int)(a3:Int)(a4:Int)(b7F:Int)(b7G:Int)(b7H:Int)(b7I:Int):Pu pG (xV (Instr.build 40 #[(0,(Value.int .i64 a0)),(1,(Value.int .i64 a1)),(2,(Value.int .i64 a2)),(3,(Value.int .i64 a3)),(4,(Value.int .i64 a4)),(6,(Value.agg #[(Value.int .i64 b7F),(Value.int .i64 b7G)])),(7,(Value.agg #[(Value.int .i64 b7H),(Value.int .i64 b7I)]))])) (.agg #[(Value.int .i64 a0),(Value.int .i64 a1),(Value.int .i64 a2),(Value.int .i64 a3),(Value.int .i64 a4),(Value.int .i64 0),(Value.int .i64 b7F),(Value.int .i64 b7G),(Value.int .i64 b7H),(Value.int .i64 b7I)]):=Pu.ok fun w=>by kernel_rfl
theorem a6P{g o:Nat}:Pu pG (xV (Instr.fieldAt 169 (.pointer (some ⟨g,o,none⟩)) 2)) (.pointer (some ⟨g,o+2,none⟩)):=Pu.ok fun w=>by kernel_rfl
theorem b7P(a0a:Option Addr)(a0n a0c:Nat)(a1a:Option Addr)(a1n a1c:Nat)(w:World):(Instr.buildSlice 192 2 #[(0,(Value.slice a0a a0n a0c)),(1,(Value.slice a1a a1n a1c))]).run pG w=.ok (.slice (some ⟨w.heap.size,0,none⟩) 2 2) (w.alloc (.cells [(Value.slice a0a a0n a0c),(Value.slice a1a a1n a1c)].toArray 179)):=by kernel_rfl
theorem a8r(a5 a6 a7 a8 a9 a10 a3 a4:Int):Pu pG (xV (Instr.build 187 #[(5,.int .i64 a5),(6,.int .i64 a6),(7,.int .i64 a7),(8,.int .i64 a8),(9,.int .i64 a9),(10,.int .i64 a10),(3,.int .i64 a3),(4,.int .i64 a4)])) (.agg #[.int .i64 0,.int .i64 0,.int .i64 0,.int .i64 a3,.int .i64 a4,.int .i64 a5,.int .i64 a6,.int .i64 a7,.int .i64 a8,.int .i64 a9,.int .i64 a10]):=Pu.ok fun w=>by kernel_rfl
theorem c0F(a0 a1 a2 a3 a4 a5 a6 a7 a8 a9 a10:Int)(k:IntKind)(i:Int)(h0:0≤i)(h1:i < 11):Pu pG (xV (Instr.index 187 (.agg #[.int .i64 a0,.int .i64 a1,.int .i64 a2,.int .i64 a3,.int .i64 a4,.int .i64 a5,.int .i64 a6,.int .i64 a7,.int .i64 a8,.int .i64 a9,.int .i64 a10]) (.int k i))) (.int .i64 (([a0,a1,a2,a3,a4,a5,a6,a7,a8,a9,a10]:List Int).getD i.toNat 0)):=by
  obtain rfl | rfl | rfl | rfl | rfl | rfl | rfl | rfl | rfl | rfl | rfl:=(by omega:i=0∨i=1∨i=2∨i=3∨i=4∨i=5∨i=6∨i=7∨i=8∨i=9∨i=10)
  · exact Pu.ok fun w=>by kernel_rfl
  · exact Pu.ok fun w=>by kernel_rfl
  · exact Pu.ok fun w=>by kernel_rfl
  · exact Pu.ok fun w=>by kernel_rfl
  · exact Pu.ok fun w=>by kernel_rfl
  · exact Pu.ok fun w=>by kernel_rfl
  · exact Pu.ok fun w=>by kernel_rfl
  · exact Pu.ok fun w=>by kernel_rfl
  · exact Pu.ok fun w=>by kernel_rfl
  · exact Pu.ok fun w=>by kernel_rfl
  · exact Pu.ok fun w=>by kernel_rfl
theorem c0G  : Pu pG (xV (Instr.build 169 #[])) (.agg #[(Value.int .i64 0),(Value.int .i64 0),(Value.int .i64 0),(Value.bool false),(Value.bool false),(Value.slice none 0 0)]):=Pu.ok fun w=>by kernel_rfl
theorem a9f(a:Option Addr)(n c:Nat):Pu pG (xBuiltin .len #[179] 3 [false] [.slice a n c]) (.int .i64 (n:Int)):=S0 Tryz.underlying179 a n c
theorem c1V{a:Option Addr}{g o:Nat}(ha:a=some ⟨g,o,none⟩)(len cap:Nat)(k:IntKind)(i:Int)(h0:0≤i)(h1:i < len):Pu pG (xV (Instr.indexAt 179 (.slice a len cap) (.int k i))) (.pointer (some ⟨g,o+i.toNat*1,none⟩)):=S8 Tryz.underlying179 Tryz.sizeOf182 ha len cap k i h0 h1
theorem b0K{g o:Nat}:Pu pG (xV (Instr.fieldAt 169 (.pointer (some ⟨g,o,none⟩)) 0)) (.pointer (some ⟨g,o+0,none⟩)):=Pu.ok fun w=>by kernel_rfl
theorem b4b{g o:Nat}:Pu pG (xV (Instr.fieldAt 169 (.pointer (some ⟨g,o,none⟩)) 1)) (.pointer (some ⟨g,o+1,none⟩)):=Pu.ok fun w=>by kernel_rfl
theorem b0L{g o:Nat}:Pu pG (xV (Instr.fieldAt 169 (.pointer (some ⟨g,o,none⟩)) 3)) (.pointer (some ⟨g,o+3,none⟩)):=Pu.ok fun w=>by kernel_rfl
theorem b0M{g o:Nat}:Pu pG (xV (Instr.fieldAt 169 (.pointer (some ⟨g,o,none⟩)) 4)) (.pointer (some ⟨g,o+4,none⟩)):=Pu.ok fun w=>by kernel_rfl
theorem b0N{g o:Nat}:Pu pG (xV (Instr.fieldAt 169 (.pointer (some ⟨g,o,none⟩)) 5)) (.pointer (some ⟨g,o+5,none⟩)):=Pu.ok fun w=>by kernel_rfl
theorem b4R(a:Option Addr)(n c:Nat):Pu pG (xBuiltin .len #[192] 3 [false] [.slice a n c]) (.int .i64 (n:Int)):=S0 Tryz.underlying192 a n c
theorem b6C{a:Option Addr}{g o:Nat}(ha:a=some ⟨g,o,none⟩)(len cap:Nat)(k:IntKind)(i:Int)(h0:0≤i)(h1:i < len):Pu pG (xV (Instr.indexAt 192 (.slice a len cap) (.int k i))) (.pointer (some ⟨g,o+i.toNat*1,none⟩)):=S8 Tryz.underlying192 Tryz.sizeOf179 ha len cap k i h0 h1
theorem c1W(s:ByteArray):Pu pG (xV (Instr.makeInterface 9 (.string s))) (.iface 9 (.string s)):=Pu.ok fun w=>by kernel_rfl
abbrev t6(x:d7):List Value:=[(D7 x)]
theorem N5(x:d7):(t6 x).length=1:=rfl
theorem Q1(x:d7):(t6 x).all (·.oneCell')=true:=b6S x
theorem b9W:Tryz.prog.info? 182=some ((Tryz.prog.info? 182).getD default):=by kernel_rfl
theorem b1a{E:Pan}{w0 w:World}{ps:Nat→Prop}{H0 H:Hp}{Fs:List Frag}{K:Value→World→Prop}{s:Sl}{xs:List d7}{F:Frag}{t2:Sl}{ys:List d7}{ks:List Bool}{ty:TypeId}(I:Inv w0 ps H0 H (F::Fs) w)(hr:RowL 182 1 t6 s xs F)(hs:SrcO w t6 t2 ys)(hb:(xs.length+ys.length)*17≤140737488355328)(h:∀(s':Sl)(F':Frag)(w':World),RowL 182 1 t6 s' (xs++ys) F'→Inv w0 ps H0 H (F'::Fs) w'→(∀k,k < w.heap.size→(∀p∈F,p.1≠k)→w'.heap[k]? = w.heap[k]?)→K (.slice s'.a s'.n s'.c) w'):opK pG E (xBuiltin .append #[179,179] ty ks [.slice s.a s.n s.c,.slice t2.a t2.n t2.c]) w K:=
  b3h (bytes:=16) Tryz.underlying179 b9W (z:=Value.nilIface) (by kernel_rfl) (by kernel_rfl) (by kernel_rfl) (by kernel_rfl) I hr hs hb h
theorem b7Q(a4F:ByteArray)(a1d:Int):Pu pG (xV (Instr.build 195 #[(0,(Value.agg #[(Value.string a4F),(Value.int .i64 a1d)]))])) (.agg #[(Value.string a4F),(Value.int .i64 a1d)]):=Pu.ok fun w=>by kernel_rfl
theorem b5E(x:T0):Pu pG (xV (Instr.makeInterface 195 (.agg #[(Value.string x.Z4.i7),(Value.int .i64 x.Z4.E1)]))) (D7 (d7.J3 x)):=Pu.ok fun w=>rfl
theorem b7R(a4F:Int)(a1d:ByteArray)(a0_2a:Option Addr)(a0_2n a0_2c:Nat)(a0_3a:Option Addr)(a0_3n a0_3c:Nat)(a0_4a:Option Addr)(a0_4n a0_4c:Nat)(a0_5a:Option Addr)(a0_5n a0_5c:Nat):Pu pG (xV (Instr.build 197 #[(0,(Value.agg #[(Value.int .i64 a4F),(Value.string a1d),(Value.slice a0_2a a0_2n a0_2c),(Value.slice a0_3a a0_3n a0_3c),(Value.slice a0_4a a0_4n a0_4c),(Value.slice a0_5a a0_5n a0_5c)]))])) (.agg #[(Value.int .i64 a4F),(Value.string a1d),(Value.slice a0_2a a0_2n a0_2c),(Value.slice a0_3a a0_3n a0_3c),(Value.slice a0_4a a0_4n a0_4c),(Value.slice a0_5a a0_5n a0_5c)]):=Pu.ok fun w=>by kernel_rfl
theorem b5F(x:O9):Pu pG (xV (Instr.makeInterface 197 (.agg #[(Value.int .i64 x.g9.d3),(Value.string x.g9.i7),(Value.slice x.g9.m8.a x.g9.m8.n x.g9.m8.c),(Value.slice x.g9.z7.a x.g9.z7.n x.g9.z7.c),(Value.slice x.g9.O7.a x.g9.O7.n x.g9.O7.c),(Value.slice x.g9.O8.a x.g9.O8.n x.g9.O8.c)]))) (D7 (d7.E0 x)):=Pu.ok fun w=>rfl
theorem b6V(x:d7):Pu pG (xV (Instr.typeAssert (D7 x) 182 195 true)) (.tuple #[(Value.agg #[(Value.string ((((x.a3f)).Z4).i7)),(Value.int .i64 ((((x.a3f)).Z4).E1))]),.bool (x.a6m)]):=by
  cases x<;>exact Pu.ok fun w=>by kernel_rfl
theorem b0O{g o:Nat}:Pu pG (xV (Instr.fieldAt 195 (.pointer (some ⟨g,o,none⟩)) 0)) (.pointer (some ⟨g,o+0,none⟩)):=Pu.ok fun w=>by kernel_rfl
theorem b6W(x:d7):Pu pG (xV (Instr.typeAssert (D7 x) 182 197 true)) (.tuple #[(Value.agg #[(Value.int .i64 ((((x.u6)).g9).d3)),(Value.string ((((x.u6)).g9).i7)),(Value.slice ((((x.u6)).g9).m8).a ((((x.u6)).g9).m8).n ((((x.u6)).g9).m8).c),(Value.slice ((((x.u6)).g9).z7).a ((((x.u6)).g9).z7).n ((((x.u6)).g9).z7).c),(Value.slice ((((x.u6)).g9).O7).a ((((x.u6)).g9).O7).n ((((x.u6)).g9).O7).c),(Value.slice ((((x.u6)).g9).O8).a ((((x.u6)).g9).O8).n ((((x.u6)).g9).O8).c)]),.bool (x.a6n)]):=by
  cases x<;>exact Pu.ok fun w=>by kernel_rfl
theorem L2{g o:Nat}:Pu pG (xV (Instr.fieldAt 197 (.pointer (some ⟨g,o,none⟩)) 0)) (.pointer (some ⟨g,o+0,none⟩)):=Pu.ok fun w=>by kernel_rfl
theorem b6X(x:d7):Pu pG (xV (Instr.typeAssert (D7 x) 182 202 true)) (.tuple #[(Value.agg #[(Value.int .i64 ((((x.D8)).t7).d3)),(Value.int .i64 ((((x.D8)).t7).p6)),(Value.string ((((x.D8)).t7).i7)),(Value.slice ((((x.D8)).t7).D5).a ((((x.D8)).t7).D5).n ((((x.D8)).t7).D5).c)]),.bool (x.a6o)]):=by
  cases x<;>exact Pu.ok fun w=>by kernel_rfl
theorem a0f{g o:Nat}:Pu pG (xV (Instr.fieldAt 202 (.pointer (some ⟨g,o,none⟩)) 0)) (.pointer (some ⟨g,o+0,none⟩)):=Pu.ok fun w=>by kernel_rfl
theorem a3g(a0:Int)(a1:Int):Pu pG (xV (Instr.build 230 #[(0,(Value.int .i64 a0)),(1,(Value.int .i64 a1))])) (.agg #[(Value.int .i64 a0),(Value.int .i64 a1)]):=Pu.ok fun w=>by kernel_rfl
theorem c5C(d:Nat)(a0 b0:Int)(a1 b1:Int)(w:World):(Op.equalIn (d+2) 230 (.agg #[(Value.int .i64 a0),(Value.int .i64 a1)]) (.agg #[(Value.int .i64 b0),(Value.int .i64 b1)])).run pG w=.ok (decide (a0=b0∧a1=b1)) w:=by
  have u3:=Tryz.underlying3
  have i3:=Tryz.isAgg3
  have s3:=Tryz.sizeOf3
  have hS:Tryz.prog.underlying 230=some (.struct (Tryz.prog.fieldsOf 230)):=by kernel_rfl
  rw [run_equalIn_agg w (d+1) 230 _ _ hS (by kernel_rfl)]
  simp only [Program.fieldsOf,Tryz.underlying230]
  go_simp
  try simp only [a9E]
  by_cases h0:a0=b0
  · by_cases h1:a1=b1
    · simp [h0,h1]
    · simp [h0,h1]
  · simp [h0]
theorem a7g(x y:Operand)(a0 b0:Int)(a1 b1:Int):Pu pG (xBin .eql 230 x y (.agg #[(Value.int .i64 a0),(Value.int .i64 a1)]) (.agg #[(Value.int .i64 b0),(Value.int .i64 b1)])) (.bool (decide (a0=b0∧a1=b1))):=by
  refine Pu.ok (s:=do eqGuard .eql 230 x y (.agg #[(Value.int .i64 a0),(Value.int .i64 a1)]) (.agg #[(Value.int .i64 b0),(Value.int .i64 b1)]);binOp .eql 230 (.agg #[(Value.int .i64 a0),(Value.int .i64 a1)]) (.agg #[(Value.int .i64 b0),(Value.int .i64 b1)])) fun w=>?_
  rw [Sem.run_bind,run_eqGuard_agg w _ _ _ _ _ _ (by kernel_rfl),Result.andThen_ok,run_eql_struct,show (10000:Nat)=9998+2 from rfl,c5C]
  rfl
theorem c0H  : Pu pG (xV (Instr.build 230 #[])) (.agg #[(Value.int .i64 0),(Value.int .i64 0)]):=Pu.ok fun w=>by kernel_rfl
theorem c3z(a0a:Option Addr)(a0n a0c:Nat)(a1a:Option Addr)(a1n a1c:Nat)(a2a:Option Addr)(a2n a2c:Nat)(a3a:Option Addr)(a3n a3c:Nat)(w:World):(Instr.buildSlice 192 4 #[(0,(Value.slice a0a a0n a0c)),(1,(Value.slice a1a a1n a1c)),(2,(Value.slice a2a a2n a2c)),(3,(Value.slice a3a a3n a3c))]).run pG w=.ok (.slice (some ⟨w.heap.size,0,none⟩) 4 4) (w.alloc (.cells [(Value.slice a0a a0n a0c),(Value.slice a1a a1n a1c),(Value.slice a2a a2n a2c),(Value.slice a3a a3n a3c)].toArray 179)):=by kernel_rfl
theorem b7S(a4F:Int)(a1d:Int)(a0_2a:Option Addr)(a0_2n a0_2c:Nat)(a0_3a:Option Addr)(a0_3n a0_3c:Nat):Pu pG (xV (Instr.build 236 #[(0,(Value.agg #[(Value.int .i64 a4F),(Value.int .i64 a1d),(Value.slice a0_2a a0_2n a0_2c),(Value.slice a0_3a a0_3n a0_3c)]))])) (.agg #[(Value.int .i64 a4F),(Value.int .i64 a1d),(Value.slice a0_2a a0_2n a0_2c),(Value.slice a0_3a a0_3n a0_3c)]):=Pu.ok fun w=>by kernel_rfl
theorem b5G(x:P0):Pu pG (xV (Instr.makeInterface 236 (.agg #[(Value.int .i64 x.q9.d3),(Value.int .i64 x.q9.fOp),(Value.slice x.q9.m8.a x.q9.m8.n x.q9.m8.c),(Value.slice x.q9.A5.a x.q9.A5.n x.q9.A5.c)]))) (D7 (d7.K3 x)):=Pu.ok fun w=>rfl
theorem b7T(a4F:Int)(a1d:Int)(b7K:ByteArray)(a0_3a:Option Addr)(a0_3n a0_3c:Nat):Pu pG (xV (Instr.build 202 #[(0,(Value.agg #[(Value.int .i64 a4F),(Value.int .i64 a1d),(Value.string b7K),(Value.slice a0_3a a0_3n a0_3c)]))])) (.agg #[(Value.int .i64 a4F),(Value.int .i64 a1d),(Value.string b7K),(Value.slice a0_3a a0_3n a0_3c)]):=Pu.ok fun w=>by kernel_rfl
theorem b1b(x:K1):Pu pG (xV (Instr.makeInterface 202 (.agg #[(Value.int .i64 x.t7.d3),(Value.int .i64 x.t7.p6),(Value.string x.t7.i7),(Value.slice x.t7.D5.a x.t7.D5.n x.t7.D5.c)]))) (D7 (d7.D6 x)):=Pu.ok fun w=>rfl
theorem a0U{g o:Nat}:Pu pG (xV (Instr.fieldAt 236 (.pointer (some ⟨g,o,none⟩)) 0)) (.pointer (some ⟨g,o+0,none⟩)):=Pu.ok fun w=>by kernel_rfl
theorem a6r(a0:Int)(a1:Int):Pu pG (xV (Instr.build 239 #[(0,(Value.int .i64 a0)),(1,(Value.int .i64 a1))])) (.agg #[(Value.int .i64 a0),(Value.int .i64 a1)]):=Pu.ok fun w=>by kernel_rfl
theorem c5D(d:Nat)(a0 b0:Int)(a1 b1:Int)(w:World):(Op.equalIn (d+2) 239 (.agg #[(Value.int .i64 a0),(Value.int .i64 a1)]) (.agg #[(Value.int .i64 b0),(Value.int .i64 b1)])).run pG w=.ok (decide (a0=b0∧a1=b1)) w:=by
  have u3:=Tryz.underlying3
  have i3:=Tryz.isAgg3
  have s3:=Tryz.sizeOf3
  have hS:Tryz.prog.underlying 239=some (.struct (Tryz.prog.fieldsOf 239)):=by kernel_rfl
  rw [run_equalIn_agg w (d+1) 239 _ _ hS (by kernel_rfl)]
  simp only [Program.fieldsOf,Tryz.underlying239]
  go_simp
  try simp only [a9E]
  by_cases h0:a0=b0
  · by_cases h1:a1=b1
    · simp [h0,h1]
    · simp [h0,h1]
  · simp [h0]
theorem b0z(x y:Operand)(a0 b0:Int)(a1 b1:Int):Pu pG (xBin .eql 239 x y (.agg #[(Value.int .i64 a0),(Value.int .i64 a1)]) (.agg #[(Value.int .i64 b0),(Value.int .i64 b1)])) (.bool (decide (a0=b0∧a1=b1))):=by
  refine Pu.ok (s:=do eqGuard .eql 239 x y (.agg #[(Value.int .i64 a0),(Value.int .i64 a1)]) (.agg #[(Value.int .i64 b0),(Value.int .i64 b1)]);binOp .eql 239 (.agg #[(Value.int .i64 a0),(Value.int .i64 a1)]) (.agg #[(Value.int .i64 b0),(Value.int .i64 b1)])) fun w=>?_
  rw [Sem.run_bind,run_eqGuard_agg w _ _ _ _ _ _ (by kernel_rfl),Result.andThen_ok,run_eql_struct,show (10000:Nat)=9998+2 from rfl,c5D]
  rfl
theorem c0I  : Pu pG (xV (Instr.build 239 #[])) (.agg #[(Value.int .i64 0),(Value.int .i64 0)]):=Pu.ok fun w=>by kernel_rfl
theorem b1E(a0:d7)(w:World):(Instr.buildSlice 179 1 #[(0,(D7 a0))]).run pG w=.ok (.slice (some ⟨w.heap.size,0,none⟩) 1 1) (w.alloc (.cells [(D7 a0)].toArray 182)):=by cases a0<;>kernel_rfl
abbrev v8(x:A8):List Value:=[(Value.slice x.a9G.a x.a9G.n x.a9G.c),(Value.slice x.a9a.a x.a9a.n x.a9a.c)]
abbrev d8(x:d4):List Value:=[(Value.slice x.p5.a x.p5.n x.p5.c),(Value.int .i64 x.m3),(Value.slice x.m2.a x.m2.n x.m2.c),(Value.int .i64 x.c6),(Value.int .i64 x.p9),(Value.slice x.m4.a x.m4.n x.m4.c)]
abbrev j6(x:i6):List Value:=[(Value.int .i64 x.r9),(Value.int .i64 x.p6)]
abbrev m6(x:q8):List Value:=[(Value.int .i64 x.d3),(Value.int .i64 x.p6),(Value.string x.i7),(Value.slice x.D5.a x.D5.n x.D5.c)]
abbrev o8(x:v2):List Value:=[(Value.int .i64 x.d3),(Value.int .i64 x.fOp),(Value.slice x.m8.a x.m8.n x.m8.c),(Value.slice x.A5.a x.A5.n x.A5.c)]
abbrev W4(x:m9):List Value:=[(Value.slice x.fc.p5.a x.fc.p5.n x.fc.p5.c),(Value.int .i64 x.fc.m3),(Value.slice x.fc.m2.a x.fc.m2.n x.fc.m2.c),(Value.int .i64 x.fc.c6),(Value.int .i64 x.fc.p9),(Value.slice x.fc.m4.a x.fc.m4.n x.fc.m4.c),(Value.slice x.fout.a x.fout.n x.fout.c),(Value.slice x.fbegun.a x.fbegun.n x.fbegun.c),(Value.slice x.fdone.a x.fdone.n x.fdone.c)]
abbrev a7p(x:i4):List Value:=[(Value.bool x.fdst),(Value.bool x.farr),(Value.bool x.fop),(Value.bool x.fa),(Value.bool x.fb)]
abbrev b1c(x:m1):List Value:=[(Value.int .i64 x.fnodes),(Value.int .i64 x.fdepth),(Value.int .i64 x.fe),(Value.bool x.fform),(Value.bool x.fnamed),(Value.slice x.fnames.a x.fnames.n x.fnames.c)]
end Go.Proofs.YtaokfhdinhimfaaGreatDoor
