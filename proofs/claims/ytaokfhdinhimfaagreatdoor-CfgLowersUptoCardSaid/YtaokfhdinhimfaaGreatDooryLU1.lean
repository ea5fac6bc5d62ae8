/- Single operations at this program's types, and its structures; printed by lift.py. -/
import Derived.KernelRfl
import Derived.Laws.StructEq
import Derived.Laws.Cover2
import Derived.Test.YtaokfhdinhimfaaGreatDooryLS5
import Derived.Test.YtaokfhdinhimfaaGreatDooryLGz
namespace Go.Proofs.YtaokfhdinhimfaaGreatDoor
open Go.RowKit
set_option maxRecDepth 100000
set_option maxHeartbeats 2000000
structure m6 where
  E4:Sl
  a1l:Sl
structure m3 where
  p7:Sl
  q9:Int
  o9:Sl
  p5:Int
  u5:Int
  R3:Sl
structure m4 where
  B7:Int
  s7:Int
structure c7 where
  O0:Int
  fTo:Int
  c8:Int
  a1O:Int
  S3:Int
  fOp:Int
  fA:m4
  fB:m4
structure i8 where
  c8:Int
  f6:ByteArray
  l7:Sl
  r9:Sl
  K5:Sl
  L2:Sl
structure d6 where
  fc:m3
  fgreat:Bool
structure f8 where
  c8:Int
  s7:Int
  f6:ByteArray
  u1:Sl
structure i7 where
  f6:ByteArray
  N2:Int
structure j8 where
  c8:Int
  fOp:Int
  l7:Sl
  r7:Sl
structure c5x where
  fc:m3
  fout:Sl
  fbegun:Sl
  fdone:Sl
structure f9 where
  fc:m3
  fvars:(Option Nat)
  farrays:(Option Nat)
structure d8 where
  f6:ByteArray
  b0C:Bool
structure d1Z where
  fdst:Bool
  farr:Bool
  fop:Bool
  fa:Bool
  fb:Bool
structure d4 where
  fn:Int
  fdepth:Int
  fbad:Int
structure d3 where
  fok:Bool
  fnames:Bool
structure m9 where
  fl:Sl
structure g9 where
  fname:ByteArray
  fas:Int
structure o4 where
  fnodes:Int
  fdepth:Int
  fe:Int
  fform:Bool
  fnamed:Bool
  fnames:Sl
structure a0D where
  a1J:i7
structure W6 where
  m1:i8
structure P2 where
  y7:f8
structure W7 where
  s6:j8
structure B0 where
  fexprs:Int
  fconds:Int
structure q7 where
  fexprs:Int
  fparts:Int
abbrev r5(x:f9)(s0:Sl):List Value:=[(vs x.fc.p7),(vi x.fc.q9),(vs x.fc.o9),(vi x.fc.p5),(vi x.fc.u5),(vs s0),(Value.map x.fvars),(Value.map x.farrays)]
abbrev f4(x:f9):f9:=f9.mk (m3.mk x.fc.p7 x.fc.q9 x.fc.o9 x.fc.p5 x.fc.u5 (Sl.mk none 0 0)) x.fvars x.farrays
abbrev o3(x:d6)(s0:Sl):List Value:=[(vs x.fc.p7),(vi x.fc.q9),(vs x.fc.o9),(vi x.fc.p5),(vi x.fc.u5),(vs s0),(Value.bool x.fgreat)]
abbrev d5(x:d6):d6:=d6.mk (m3.mk x.fc.p7 x.fc.q9 x.fc.o9 x.fc.p5 x.fc.u5 (Sl.mk none 0 0)) x.fgreat
abbrev a2U(x:o4)(s0:Sl):List Value:=[(vi x.fnodes),(vi x.fdepth),(vi x.fe),(Value.bool x.fform),(Value.bool x.fnamed),(vs s0)]
abbrev a1Z(x:o4):o4:=o4.mk x.fnodes x.fdepth x.fe x.fform x.fnamed (Sl.mk none 0 0)
inductive f5 where
  | nil
  | O5 (x:a0D)
  | L6 (x:W6)
  | K7 (x:P2)
  | P5 (x:W7)
def K8:f5→Value
  | .nil=>.nilIface
  | .O5 x=>.iface 195 (.agg #[(Value.string x.a1J.f6),(Value.int .i64 x.a1J.N2)])
  | .L6 x=>.iface 197 (.agg #[(Value.int .i64 x.m1.c8),(Value.string x.m1.f6),(Value.slice x.m1.l7.a x.m1.l7.n x.m1.l7.c),(Value.slice x.m1.r9.a x.m1.r9.n x.m1.r9.c),(Value.slice x.m1.K5.a x.m1.K5.n x.m1.K5.c),(Value.slice x.m1.L2.a x.m1.L2.n x.m1.L2.c)])
  | .K7 x=>.iface 202 (.agg #[(Value.int .i64 x.y7.c8),(Value.int .i64 x.y7.s7),(Value.string x.y7.f6),(Value.slice x.y7.u1.a x.y7.u1.n x.y7.u1.c)])
  | .P5 x=>.iface 236 (.agg #[(Value.int .i64 x.s6.c8),(Value.int .i64 x.s6.fOp),(Value.slice x.s6.l7.a x.s6.l7.n x.s6.l7.c),(Value.slice x.s6.r7.a x.s6.r7.n x.s6.r7.c)])
theorem b8w(x:f5):[K8 x].all (·.oneCell')=true:=by cases x<;>rfl
def f5.a5c:f5→a0D
  | .O5 x=>x
  | _=>(a0D.mk (i7.mk ⟨#[]⟩ 0))
def f5.a7C:f5→Bool
  | .O5 _=>true
  | _=>false
def f5.z8:f5→W6
  | .L6 x=>x
  | _=>(W6.mk (i8.mk 0 ⟨#[]⟩ (Sl.mk none 0 0) (Sl.mk none 0 0) (Sl.mk none 0 0) (Sl.mk none 0 0)))
def f5.a7D:f5→Bool
  | .L6 _=>true
  | _=>false
def f5.L1:f5→P2
  | .K7 x=>x
  | _=>(P2.mk (f8.mk 0 0 ⟨#[]⟩ (Sl.mk none 0 0)))
def f5.a7E:f5→Bool
  | .K7 _=>true
  | _=>false
theorem W8{g o:Nat}:Pu pG (xV (Instr.fieldAt 30 (.pointer (some ⟨g,o,none⟩)) 5)) (.pointer (some ⟨g,o+5,none⟩)):=Pu.ok fun w=>by kernel_rfl
theorem a9Z(a:Option Addr)(n c:Nat):Pu pG (xBuiltin .len #[28] 3 [false] [.slice a n c]) (.int .i64 (n:Int)):=a1e Tryz.underlying28 a n c
theorem b3o{a:Option Addr}{g o:Nat}(ha:a=some ⟨g,o,none⟩)(len cap:Nat)(k:IntKind)(i:Int)(h0:0≤i)(h1:i < len):Pu pG (xV (Instr.indexAt 28 (.slice a len cap) (.int k i))) (.pointer (some ⟨g,o+i.toNat*10,none⟩)):=a1Y Tryz.underlying28 Tryz.sizeOf40 ha len cap k i h0 h1
theorem a8N{g o:Nat}:Pu pG (xV (Instr.fieldAt 40 (.pointer (some ⟨g,o,none⟩)) 2)) (.pointer (some ⟨g,o+2,none⟩)):=Pu.ok fun w=>by kernel_rfl
theorem a2b{g o:Nat}:Pu pG (xV (Instr.fieldAt 30 (.pointer (some ⟨g,o,none⟩)) 3)) (.pointer (some ⟨g,o+3,none⟩)):=Pu.ok fun w=>by kernel_rfl
theorem c5F(x y:Operand)(a b:Bool):Pu pG (xBin .neq 4 x y (.bool a) (.bool b)) (.bool (a != b)):=c9f _ _ _ a b Tryz.underlying4
theorem c0W(a0:Int):Pu pG (xV (Instr.build 60 #[(0,(Value.int .i64 a0))])) (.agg #[(Value.int .i64 a0),(Value.string ⟨#[]⟩),(Value.slice none 0 0),(Value.slice none 0 0),(Value.slice none 0 0),(Value.slice none 0 0)]):=Pu.ok fun w=>by kernel_rfl
abbrev g7(x:i8):List Value:=[(Value.int .i64 x.c8),(Value.string x.f6),(Value.slice x.l7.a x.l7.n x.l7.c),(Value.slice x.r9.a x.r9.n x.r9.c),(Value.slice x.K5.a x.K5.n x.K5.c),(Value.slice x.L2.a x.L2.n x.L2.c)]
theorem b8x(x:i8):(g7 x).length=6:=rfl
theorem b8y(x:i8):(g7 x).all (·.oneCell')=true:=rfl
theorem c7j(a3w:Int)(a3x:ByteArray)(a0_2a:Option Addr)(a0_2n a0_2c:Nat)(a0_3a:Option Addr)(a0_3n a0_3c:Nat)(a0_4a:Option Addr)(a0_4n a0_4c:Nat)(a0_5a:Option Addr)(a0_5n a0_5c:Nat)(w:World):(Instr.buildSlice 23 1 #[(0,(Value.agg #[(Value.int .i64 a3w),(Value.string a3x),(Value.slice a0_2a a0_2n a0_2c),(Value.slice a0_3a a0_3n a0_3c),(Value.slice a0_4a a0_4n a0_4c),(Value.slice a0_5a a0_5n a0_5c)]))]).run pG w=.ok (.slice (some ⟨w.heap.size,0,none⟩) 1 1) (w.alloc (.cells [(Value.int .i64 a3w),(Value.string a3x),(Value.slice a0_2a a0_2n a0_2c),(Value.slice a0_3a a0_3n a0_3c),(Value.slice a0_4a a0_4n a0_4c),(Value.slice a0_5a a0_5n a0_5c)].toArray 60)):=by kernel_rfl
theorem c0X(a1a:Option Addr)(a1n a1c:Nat):Pu pG (xV (Instr.build 25 #[(1,(Value.slice a1a a1n a1c))])) (.agg #[(Value.slice none 0 0),(Value.slice a1a a1n a1c)]):=Pu.ok fun w=>by kernel_rfl
theorem a5V{g o:Nat}:Pu pG (xV (Instr.fieldAt 30 (.pointer (some ⟨g,o,none⟩)) 4)) (.pointer (some ⟨g,o+4,none⟩)):=Pu.ok fun w=>by kernel_rfl
theorem a4X(a0:Int):Pu pG (xV (Instr.build 38 #[(0,(Value.int .i64 a0))])) (.agg #[(Value.int .i64 a0),(Value.int .i64 0)]):=Pu.ok fun w=>by kernel_rfl
theorem b2O(a1:Int)(a2:Int)(a3:Int)(a4:Int)(b9f:Int)(b9g:Int)(b9h:Int)(b9i:Int):Pu pG (xV (Instr.build 40 #[(1,(Value.int .i64 a1)),(2,(Value.int .i64 a2)),(3,(Value.int .i64 a3)),(4,(Value.int .i64 a4)),(6,(Value.agg #[(Value.int .i64 b9f),(Value.int .i64 b9g)])),(7,(Value.agg #[(Value.int .i64 b9h),(Value.int .i64 b9i)]))])) (.agg #[(Value.int .i64 0),(Value.int .i64 a1),(Value.int .i64 a2),(Value.int .i64 a3),(Value.int .i64 a4),(Value.int .i64 0),(Value.int .i64 b9f),(Value.int .i64 b9g),(Value.int .i64 b9h),(Value.int .i64 b9i)]):=Pu.ok fun w=>by kernel_rfl
theorem c3L(d:Nat)(a0 b0:Int)(a1 b1:Int)(w:World):(Op.equalIn (d+2) 38 (.agg #[(Value.int .i64 a0),(Value.int .i64 a1)]) (.agg #[(Value.int .i64 b0),(Value.int .i64 b1)])).run pG w=.ok (decide (a0=b0∧a1=b1)) w:=by
  have u3:=Tryz.underlying3
  have i3:=Tryz.isAgg3
  have s3:=Tryz.sizeOf3
  have u2:=Tryz.underlying2
  have i2:=Tryz.isAgg2
  have s2:=Tryz.sizeOf2
  have hS:Tryz.prog.underlying 38=some (.struct (Tryz.prog.fieldsOf 38)):=by kernel_rfl
  rw [run_equalIn_agg w (d+1) 38 _ _ hS (by kernel_rfl)]
  simp only [Program.fieldsOf,Tryz.underlying38]
  go_simp
  try simp only [b1m]
  by_cases h0:a0=b0
  · by_cases h1:a1=b1
    · simp [h0,h1]
    · simp [h0,h1]
  · simp [h0]
theorem c3M(d:Nat)(a0 b0:Int)(a1 b1:Int)(a2 b2:Int)(a3 b3:Int)(a4 b4:Int)(a5 b5:Int)(a6 b6:Int)(a7 b7:Int)(a8 b8:Int)(a9 b9:Int)(w:World):(Op.equalIn (d+3) 40 (.agg #[(Value.int .i64 a0),(Value.int .i64 a1),(Value.int .i64 a2),(Value.int .i64 a3),(Value.int .i64 a4),(Value.int .i64 a5),(Value.int .i64 a6),(Value.int .i64 a7),(Value.int .i64 a8),(Value.int .i64 a9)]) (.agg #[(Value.int .i64 b0),(Value.int .i64 b1),(Value.int .i64 b2),(Value.int .i64 b3),(Value.int .i64 b4),(Value.int .i64 b5),(Value.int .i64 b6),(Value.int .i64 b7),(Value.int .i64 b8),(Value.int .i64 b9)])).run pG w=.ok (decide (a0=b0∧a1=b1∧a2=b2∧a3=b3∧a4=b4∧a5=b5∧a6=b6∧a7=b7∧a8=b8∧a9=b9)) w:=by
  have u3:=Tryz.underlying3
  have i3:=Tryz.isAgg3
  have s3:=Tryz.sizeOf3
  have u2:=Tryz.underlying2
  have i2:=Tryz.isAgg2
  have s2:=Tryz.sizeOf2
  have e38:=c3L d
  have i38:=Tryz.isAgg38
  have s38:=Tryz.sizeOf38
  have e38:=c3L d
  have i38:=Tryz.isAgg38
  have s38:=Tryz.sizeOf38
  have hS:Tryz.prog.underlying 40=some (.struct (Tryz.prog.fieldsOf 40)):=by kernel_rfl
  rw [run_equalIn_agg w (d+2) 40 _ _ hS (by kernel_rfl)]
  simp only [Program.fieldsOf,Tryz.underlying40]
  go_simp
  try simp only [b1m]
  by_cases h0:a0=b0
  · by_cases h1:a1=b1
    · by_cases h2:a2=b2
      · by_cases h3:a3=b3
        · by_cases h4:a4=b4
          · by_cases h5:a5=b5
            · by_cases h6:a6=b6
              · by_cases h7:a7=b7
                · by_cases h8:a8=b8
                  · by_cases h9:a9=b9
                    · simp [h0,h1,h2,h3,h4,h5,h6,h7,h8,h9]
                    · simp [h0,h1,h2,h3,h4,h5,h6,h7,h8,h9]
                  · simp [h0,h1,h2,h3,h4,h5,h6,h7,h8]
                · simp [h0,h1,h2,h3,h4,h5,h6,h7]
              · simp [h0,h1,h2,h3,h4,h5,h6]
            · simp [h0,h1,h2,h3,h4,h5]
          · simp [h0,h1,h2,h3,h4]
        · simp [h0,h1,h2,h3]
      · simp [h0,h1,h2]
    · simp [h0,h1]
  · simp [h0]
theorem c5G(x y:Operand)(a0 b0:Int)(a1 b1:Int)(a2 b2:Int)(a3 b3:Int)(a4 b4:Int)(a5 b5:Int)(a6 b6:Int)(a7 b7:Int)(a8 b8:Int)(a9 b9:Int):Pu pG (xBin .eql 40 x y (.agg #[(Value.int .i64 a0),(Value.int .i64 a1),(Value.int .i64 a2),(Value.int .i64 a3),(Value.int .i64 a4),(Value.int .i64 a5),(Value.int .i64 a6),(Value.int .i64 a7),(Value.int .i64 a8),(Value.int .i64 a9)]) (.agg #[(Value.int .i64 b0),(Value.int .i64 b1),(Value.int .i64 b2),(Value.int .i64 b3),(Value.int .i64 b4),(Value.int .i64 b5),(Value.int .i64 b6),(Value.int .i64 b7),(Value.int .i64 b8),(Value.int .i64 b9)])) (.bool (decide (a0=b0∧a1=b1∧a2=b2∧a3=b3∧a4=b4∧a5=b5∧a6=b6∧a7=b7∧a8=b8∧a9=b9))):=by
  refine Pu.ok (s:=do eqGuard .eql 40 x y (.agg #[(Value.int .i64 a0),(Value.int .i64 a1),(Value.int .i64 a2),(Value.int .i64 a3),(Value.int .i64 a4),(Value.int .i64 a5),(Value.int .i64 a6),(Value.int .i64 a7),(Value.int .i64 a8),(Value.int .i64 a9)]) (.agg #[(Value.int .i64 b0),(Value.int .i64 b1),(Value.int .i64 b2),(Value.int .i64 b3),(Value.int .i64 b4),(Value.int .i64 b5),(Value.int .i64 b6),(Value.int .i64 b7),(Value.int .i64 b8),(Value.int .i64 b9)]);binOp .eql 40 (.agg #[(Value.int .i64 a0),(Value.int .i64 a1),(Value.int .i64 a2),(Value.int .i64 a3),(Value.int .i64 a4),(Value.int .i64 a5),(Value.int .i64 a6),(Value.int .i64 a7),(Value.int .i64 a8),(Value.int .i64 a9)]) (.agg #[(Value.int .i64 b0),(Value.int .i64 b1),(Value.int .i64 b2),(Value.int .i64 b3),(Value.int .i64 b4),(Value.int .i64 b5),(Value.int .i64 b6),(Value.int .i64 b7),(Value.int .i64 b8),(Value.int .i64 b9)])) fun w=>?_
  rw [Sem.run_bind,run_eqGuard_agg w _ _ _ _ _ _ (by kernel_rfl),Result.andThen_ok,run_eql_struct,show (10000:Nat)=9997+3 from rfl,c3M]
  rfl
theorem c5H(x y:Operand)(a0 b0:Int)(a1 b1:Int)(a2 b2:Int)(a3 b3:Int)(a4 b4:Int)(a5 b5:Int)(a6 b6:Int)(a7 b7:Int)(a8 b8:Int)(a9 b9:Int):Pu pG (xBin .neq 40 x y (.agg #[(Value.int .i64 a0),(Value.int .i64 a1),(Value.int .i64 a2),(Value.int .i64 a3),(Value.int .i64 a4),(Value.int .i64 a5),(Value.int .i64 a6),(Value.int .i64 a7),(Value.int .i64 a8),(Value.int .i64 a9)]) (.agg #[(Value.int .i64 b0),(Value.int .i64 b1),(Value.int .i64 b2),(Value.int .i64 b3),(Value.int .i64 b4),(Value.int .i64 b5),(Value.int .i64 b6),(Value.int .i64 b7),(Value.int .i64 b8),(Value.int .i64 b9)])) (.bool (!decide (a0=b0∧a1=b1∧a2=b2∧a3=b3∧a4=b4∧a5=b5∧a6=b6∧a7=b7∧a8=b8∧a9=b9))):=by
  refine Pu.ok (s:=do eqGuard .neq 40 x y (.agg #[(Value.int .i64 a0),(Value.int .i64 a1),(Value.int .i64 a2),(Value.int .i64 a3),(Value.int .i64 a4),(Value.int .i64 a5),(Value.int .i64 a6),(Value.int .i64 a7),(Value.int .i64 a8),(Value.int .i64 a9)]) (.agg #[(Value.int .i64 b0),(Value.int .i64 b1),(Value.int .i64 b2),(Value.int .i64 b3),(Value.int .i64 b4),(Value.int .i64 b5),(Value.int .i64 b6),(Value.int .i64 b7),(Value.int .i64 b8),(Value.int .i64 b9)]);binOp .neq 40 (.agg #[(Value.int .i64 a0),(Value.int .i64 a1),(Value.int .i64 a2),(Value.int .i64 a3),(Value.int .i64 a4),(Value.int .i64 a5),(Value.int .i64 a6),(Value.int .i64 a7),(Value.int .i64 a8),(Value.int .i64 a9)]) (.agg #[(Value.int .i64 b0),(Value.int .i64 b1),(Value.int .i64 b2),(Value.int .i64 b3),(Value.int .i64 b4),(Value.int .i64 b5),(Value.int .i64 b6),(Value.int .i64 b7),(Value.int .i64 b8),(Value.int .i64 b9)])) fun w=>?_
  rw [Sem.run_bind,run_eqGuard_agg w _ _ _ _ _ _ (by kernel_rfl),Result.andThen_ok,run_neq_struct,show (10000:Nat)=9997+3 from rfl,c3M]
  rfl
theorem a8A  : Pu pG (xV (Instr.build 30 #[])) (.agg #[(Value.slice none 0 0),(Value.int .i64 0),(Value.slice none 0 0),(Value.int .i64 0),(Value.int .i64 0),(Value.slice none 0 0)]):=Pu.ok fun w=>by kernel_rfl
theorem b5Z(a0a:Option Addr)(a0n a0c:Nat)(a2a:Option Addr)(a2n a2c:Nat)(a3:Int):Pu pG (xV (Instr.build 30 #[(0,(Value.slice a0a a0n a0c)),(2,(Value.slice a2a a2n a2c)),(3,(Value.int .i64 a3))])) (.agg #[(Value.slice a0a a0n a0c),(Value.int .i64 0),(Value.slice a2a a2n a2c),(Value.int .i64 a3),(Value.int .i64 0),(Value.slice none 0 0)]):=Pu.ok fun w=>by kernel_rfl
theorem c3N  : Pu pG (xV (Instr.build 77 #[])) (.agg #[(Value.slice none 0 0),(Value.int .i64 0),(Value.slice none 0 0),(Value.int .i64 0),(Value.int .i64 0),(Value.slice none 0 0),(Value.bool false)]):=Pu.ok fun w=>by kernel_rfl
theorem O1{g o:Nat}:Pu pG (xV (Instr.fieldAt 77 (.pointer (some ⟨g,o,none⟩)) 0)) (.pointer (some ⟨g,o+0,none⟩)):=Pu.ok fun w=>by kernel_rfl
theorem a4p{g o:Nat}:Pu pG (xV (Instr.fieldAt 30 (.pointer (some ⟨g,o,none⟩)) 0)) (.pointer (some ⟨g,o+0,none⟩)):=Pu.ok fun w=>by kernel_rfl
theorem a8O{g o:Nat}:Pu pG (xV (Instr.fieldAt 30 (.pointer (some ⟨g,o,none⟩)) 2)) (.pointer (some ⟨g,o+2,none⟩)):=Pu.ok fun w=>by kernel_rfl
abbrev i6(x:c7):List Value:=[(Value.int .i64 x.O0),(Value.int .i64 x.fTo),(Value.int .i64 x.c8),(Value.int .i64 x.a1O),(Value.int .i64 x.S3),(Value.int .i64 x.fOp),(Value.int .i64 x.fA.B7),(Value.int .i64 x.fA.s7),(Value.int .i64 x.fB.B7),(Value.int .i64 x.fB.s7)]
theorem a6O(x:c7):(i6 x).length=10:=rfl
theorem a6P(x:c7):(i6 x).all (·.oneCell')=true:=rfl
theorem a5W{g o:Nat}:Pu pG (xV (Instr.fieldAt 77 (.pointer (some ⟨g,o,none⟩)) 1)) (.pointer (some ⟨g,o+6,none⟩)):=Pu.ok fun w=>by kernel_rfl
theorem a1m{g o:Nat}:Pu pG (xV (Instr.fieldAt 25 (.pointer (some ⟨g,o,none⟩)) 1)) (.pointer (some ⟨g,o+1,none⟩)):=Pu.ok fun w=>by kernel_rfl
theorem L3(a:Option Addr)(n c:Nat):Pu pG (xBuiltin .len #[23] 3 [false] [.slice a n c]) (.int .i64 (n:Int)):=a1e Tryz.underlying23 a n c
abbrev a4n(x:Int):List Value:=[(Value.int .i64 x)]
theorem a9y(x:Int):(a4n x).length=1:=rfl
theorem a9z(x:Int):(a4n x).all (·.oneCell')=true:=rfl
theorem b2P(a0:Int)(w:World):(Instr.buildSlice 44 1 #[(0,(Value.int .i64 a0))]).run pG w=.ok (.slice (some ⟨w.heap.size,0,none⟩) 1 1) (w.alloc (.cells [(Value.int .i64 a0)].toArray 3)):=by kernel_rfl
theorem d2a:Tryz.prog.info? 3=some ((Tryz.prog.info? 3).getD default):=by kernel_rfl
theorem b6a{E:Pan}{w0 w:World}{ps:Nat→Prop}{H0 H:Hp}{Fs:List Frag}{K:Value→World→Prop}{s:Sl}{xs:List Int}{F:Frag}{t2:Sl}{ys:List Int}{ks:List Bool}{ty:TypeId}(I:Inv w0 ps H0 H (F::Fs) w)(hr:RowL 3 1 a4n s xs F)(hs:SrcO w a4n t2 ys)(hb:(xs.length+ys.length)*9≤140737488355328)(h:∀(s':Sl)(F':Frag)(w':World),RowL 3 1 a4n s' (xs++ys) F'→Inv w0 ps H0 H (F'::Fs) w'→(∀k,k < w.heap.size→(∀p∈F,p.1≠k)→w'.heap[k]? = w.heap[k]?)→K (.slice s'.a s'.n s'.c) w'):opK pG E (xBuiltin .append #[44,44] ty ks [.slice s.a s.n s.c,.slice t2.a t2.n t2.c]) w K:=
  b3i (bytes:=8) Tryz.underlying44 d2a (z:=(Value.int .i64 0)) (by kernel_rfl) (by kernel_rfl) (by kernel_rfl) (by kernel_rfl) I hr hs hb h
theorem a3Q{a:Option Addr}{g o:Nat}(ha:a=some ⟨g,o,none⟩)(len cap:Nat)(k:IntKind)(i:Int)(h0:0≤i)(h1:i < len):Pu pG (xV (Instr.indexAt 23 (.slice a len cap) (.int k i))) (.pointer (some ⟨g,o+i.toNat*6,none⟩)):=a1Y Tryz.underlying23 Tryz.sizeOf60 ha len cap k i h0 h1
theorem b3p{a:Option Addr}{g o:Nat}(ha:a=some ⟨g,o,none⟩)(len cap:Nat)(k:IntKind)(i:Int)(h0:0≤i)(h1:i < len):Pu pG (xV (Instr.indexAt 44 (.slice a len cap) (.int k i))) (.pointer (some ⟨g,o+i.toNat*1,none⟩)):=a1Y Tryz.underlying44 Tryz.sizeOf3 ha len cap k i h0 h1
theorem T7{g o:Nat}:Pu pG (xV (Instr.fieldAt 60 (.pointer (some ⟨g,o,none⟩)) 0)) (.pointer (some ⟨g,o+0,none⟩)):=Pu.ok fun w=>by kernel_rfl
theorem c1q(a3w:Int)(a3x:Int)(b9j:Int)(c9j:Int)(c9k:Int)(c9l:Int)(c3O:Int)(c3P:Int)(c3Q:Int)(c3R:Int)(w:World):(Instr.buildSlice 28 1 #[(0,(Value.agg #[(Value.int .i64 a3w),(Value.int .i64 a3x),(Value.int .i64 b9j),(Value.int .i64 c9j),(Value.int .i64 c9k),(Value.int .i64 c9l),(Value.int .i64 c3O),(Value.int .i64 c3P),(Value.int .i64 c3Q),(Value.int .i64 c3R)]))]).run pG w=.ok (.slice (some ⟨w.heap.size,0,none⟩) 1 1) (w.alloc (.cells [(Value.int .i64 a3w),(Value.int .i64 a3x),(Value.int .i64 b9j),(Value.int .i64 c9j),(Value.int .i64 c9k),(Value.int .i64 c9l),(Value.int .i64 c3O),(Value.int .i64 c3P),(Value.int .i64 c3Q),(Value.int .i64 c3R)].toArray 40)):=by kernel_rfl
theorem c9m:Tryz.prog.info? 40=some ((Tryz.prog.info? 40).getD default):=by kernel_rfl
theorem c3S{E:Pan}{w0 w:World}{ps:Nat→Prop}{H0 H:Hp}{Fs:List Frag}{K:Value→World→Prop}{s:Sl}{xs:List c7}{F:Frag}{t2:Sl}{ys:List c7}{ks:List Bool}{ty:TypeId}(I:Inv w0 ps H0 H (F::Fs) w)(hr:RowL 40 10 i6 s xs F)(hs:SrcO w i6 t2 ys)(hb:(xs.length+ys.length)*81≤140737488355328)(h:∀(s':Sl)(F':Frag)(w':World),RowL 40 10 i6 s' (xs++ys) F'→Inv w0 ps H0 H (F'::Fs) w'→(∀k,k < w.heap.size→(∀p∈F,p.1≠k)→w'.heap[k]? = w.heap[k]?)→K (.slice s'.a s'.n s'.c) w'):opK pG E (xBuiltin .append #[28,28] ty ks [.slice s.a s.n s.c,.slice t2.a t2.n t2.c]) w K:=
  b3i (bytes:=80) Tryz.underlying28 c9m (z:=(Value.agg #[(Value.int .i64 0),(Value.int .i64 0),(Value.int .i64 0),(Value.int .i64 0),(Value.int .i64 0),(Value.int .i64 0),(Value.int .i64 0),(Value.int .i64 0),(Value.int .i64 0),(Value.int .i64 0)])) (by kernel_rfl) (by kernel_rfl) (by kernel_rfl) (by kernel_rfl) I hr hs hb h
theorem N3{g o:Nat}:Pu pG (xV (Instr.fieldAt 60 (.pointer (some ⟨g,o,none⟩)) 2)) (.pointer (some ⟨g,o+2,none⟩)):=Pu.ok fun w=>by kernel_rfl
theorem A0{a:Option Addr}{g o:Nat}(ha:a=some ⟨g,o,none⟩)(len cap:Nat)(k:IntKind)(i:Int)(h0:0≤i)(h1:i < len):Pu pG (xV (Instr.indexAt 57 (.slice a len cap) (.int k i))) (.pointer (some ⟨g,o+i.toNat*4,none⟩)):=a1Y Tryz.underlying57 Tryz.sizeOf123 ha len cap k i h0 h1
theorem C2{g o:Nat}:Pu pG (xV (Instr.fieldAt 123 (.pointer (some ⟨g,o,none⟩)) 0)) (.pointer (some ⟨g,o+0,none⟩)):=Pu.ok fun w=>by kernel_rfl
theorem a4Y{g o:Nat}:Pu pG (xV (Instr.fieldAt 123 (.pointer (some ⟨g,o,none⟩)) 1)) (.pointer (some ⟨g,o+1,none⟩)):=Pu.ok fun w=>by kernel_rfl
theorem a8l(a0:Int)(a1:Int):Pu pG (xV (Instr.build 38 #[(0,(Value.int .i64 a0)),(1,(Value.int .i64 a1))])) (.agg #[(Value.int .i64 a0),(Value.int .i64 a1)]):=Pu.ok fun w=>by kernel_rfl
theorem C3{g o:Nat}:Pu pG (xV (Instr.fieldAt 123 (.pointer (some ⟨g,o,none⟩)) 3)) (.pointer (some ⟨g,o+3,none⟩)):=Pu.ok fun w=>by kernel_rfl
theorem a1V{g o:Nat}:Pu pG (xV (Instr.fieldAt 123 (.pointer (some ⟨g,o,none⟩)) 2)) (.pointer (some ⟨g,o+2,none⟩)):=Pu.ok fun w=>by kernel_rfl
theorem a4Z(a:Option Addr)(n c:Nat):Pu pG (xBuiltin .len #[27] 3 [false] [.slice a n c]) (.int .i64 (n:Int)):=a1e Tryz.underlying27 a n c
theorem b1n{a:Option Addr}{g o:Nat}(ha:a=some ⟨g,o,none⟩)(len cap:Nat)(k:IntKind)(i:Int)(h0:0≤i)(h1:i < len):Pu pG (xV (Instr.indexAt 27 (.slice a len cap) (.int k i))) (.pointer (some ⟨g,o+i.toNat*1,none⟩)):=a1Y Tryz.underlying27 Tryz.sizeOf9 ha len cap k i h0 h1
theorem c3T  : Pu pG (xV (Instr.build 38 #[])) (.agg #[(Value.int .i64 0),(Value.int .i64 0)]):=Pu.ok fun w=>by kernel_rfl
theorem a0E{g o:Nat}:Pu pG (xV (Instr.fieldAt 60 (.pointer (some ⟨g,o,none⟩)) 1)) (.pointer (some ⟨g,o+1,none⟩)):=Pu.ok fun w=>by kernel_rfl
theorem b0D{g o:Nat}:Pu pG (xV (Instr.fieldAt 40 (.pointer (some ⟨g,o,none⟩)) 3)) (.pointer (some ⟨g,o+3,none⟩)):=Pu.ok fun w=>by kernel_rfl
theorem a0V(a:Option Addr)(n c:Nat):Pu pG (xBuiltin .len #[22] 3 [false] [.slice a n c]) (.int .i64 (n:Int)):=a1e Tryz.underlying22 a n c
theorem U7{a:Option Addr}{g o:Nat}(ha:a=some ⟨g,o,none⟩)(len cap:Nat)(k:IntKind)(i:Int)(h0:0≤i)(h1:i < len):Pu pG (xV (Instr.indexAt 22 (.slice a len cap) (.int k i))) (.pointer (some ⟨g,o+i.toNat*2,none⟩)):=a1Y Tryz.underlying22 Tryz.sizeOf70 ha len cap k i h0 h1
theorem T8{g o:Nat}:Pu pG (xV (Instr.fieldAt 70 (.pointer (some ⟨g,o,none⟩)) 0)) (.pointer (some ⟨g,o+0,none⟩)):=Pu.ok fun w=>by kernel_rfl
theorem b0E{g o:Nat}:Pu pG (xV (Instr.fieldAt 40 (.pointer (some ⟨g,o,none⟩)) 4)) (.pointer (some ⟨g,o+4,none⟩)):=Pu.ok fun w=>by kernel_rfl
theorem a6u{g o:Nat}:Pu pG (xV (Instr.fieldAt 30 (.pointer (some ⟨g,o,none⟩)) 1)) (.pointer (some ⟨g,o+1,none⟩)):=Pu.ok fun w=>by kernel_rfl
theorem a2d{g o:Nat}:Pu pG (xV (Instr.fieldAt 40 (.pointer (some ⟨g,o,none⟩)) 6)) (.pointer (some ⟨g,o+6,none⟩)):=Pu.ok fun w=>by kernel_rfl
theorem a2e{g o:Nat}:Pu pG (xV (Instr.fieldAt 40 (.pointer (some ⟨g,o,none⟩)) 0)) (.pointer (some ⟨g,o+0,none⟩)):=Pu.ok fun w=>by kernel_rfl
theorem a7F{g o:Nat}:Pu pG (xV (Instr.fieldAt 40 (.pointer (some ⟨g,o,none⟩)) 7)) (.pointer (some ⟨g,o+8,none⟩)):=Pu.ok fun w=>by kernel_rfl
theorem Q7{g o:Nat}:Pu pG (xV (Instr.fieldAt 60 (.pointer (some ⟨g,o,none⟩)) 4)) (.pointer (some ⟨g,o+4,none⟩)):=Pu.ok fun w=>by kernel_rfl
theorem W9{g o:Nat}:Pu pG (xV (Instr.fieldAt 60 (.pointer (some ⟨g,o,none⟩)) 5)) (.pointer (some ⟨g,o+5,none⟩)):=Pu.ok fun w=>by kernel_rfl
theorem O2{g o:Nat}:Pu pG (xV (Instr.fieldAt 60 (.pointer (some ⟨g,o,none⟩)) 3)) (.pointer (some ⟨g,o+3,none⟩)):=Pu.ok fun w=>by kernel_rfl
theorem L0{a:Option Addr}{g o:Nat}(ha:a=some ⟨g,o,none⟩)(len cap:Nat)(k:IntKind)(i:Int)(h0:0≤i)(h1:i < len):Pu pG (xV (Instr.indexAt 58 (.slice a len cap) (.int k i))) (.pointer (some ⟨g,o+i.toNat*4,none⟩)):=a1Y Tryz.underlying58 Tryz.sizeOf131 ha len cap k i h0 h1
theorem a6d{g o:Nat}:Pu pG (xV (Instr.fieldAt 131 (.pointer (some ⟨g,o,none⟩)) 0)) (.pointer (some ⟨g,o+0,none⟩)):=Pu.ok fun w=>by kernel_rfl
theorem J7{g o:Nat}:Pu pG (xV (Instr.fieldAt 131 (.pointer (some ⟨g,o,none⟩)) 3)) (.pointer (some ⟨g,o+3,none⟩)):=Pu.ok fun w=>by kernel_rfl
theorem P6{g o:Nat}:Pu pG (xV (Instr.fieldAt 131 (.pointer (some ⟨g,o,none⟩)) 2)) (.pointer (some ⟨g,o+2,none⟩)):=Pu.ok fun w=>by kernel_rfl
theorem a1W{g o:Nat}:Pu pG (xV (Instr.fieldAt 131 (.pointer (some ⟨g,o,none⟩)) 1)) (.pointer (some ⟨g,o+1,none⟩)):=Pu.ok fun w=>by kernel_rfl
theorem b0F{g o:Nat}:Pu pG (xV (Instr.fieldAt 40 (.pointer (some ⟨g,o,none⟩)) 5)) (.pointer (some ⟨g,o+5,none⟩)):=Pu.ok fun w=>by kernel_rfl
theorem b6b{g o:Nat}:Pu pG (xV (Instr.fieldAt 40 (.pointer (some ⟨g,o,none⟩)) 1)) (.pointer (some ⟨g,o+1,none⟩)):=Pu.ok fun w=>by kernel_rfl
theorem a2f{g o:Nat}:Pu pG (xV (Instr.fieldAt 70 (.pointer (some ⟨g,o,none⟩)) 1)) (.pointer (some ⟨g,o+1,none⟩)):=Pu.ok fun w=>by kernel_rfl
abbrev v2(x:ByteArray):List Value:=[(Value.string x)]
theorem a6V(x:ByteArray):(v2 x).length=1:=rfl
theorem a6W(x:ByteArray):(v2 x).all (·.oneCell')=true:=rfl
theorem d2b:Tryz.prog.info? 9=some ((Tryz.prog.info? 9).getD default):=by kernel_rfl
theorem b9k{E:Pan}{w0 w:World}{ps:Nat→Prop}{H0 H:Hp}{Fs:List Frag}{K:Value→World→Prop}{s:Sl}{xs:List ByteArray}{F:Frag}{t2:Sl}{ys:List ByteArray}{ks:List Bool}{ty:TypeId}(I:Inv w0 ps H0 H (F::Fs) w)(hr:RowL 9 1 v2 s xs F)(hs:SrcO w v2 t2 ys)(hb:(xs.length+ys.length)*17≤140737488355328)(h:∀(s':Sl)(F':Frag)(w':World),RowL 9 1 v2 s' (xs++ys) F'→Inv w0 ps H0 H (F'::Fs) w'→(∀k,k < w.heap.size→(∀p∈F,p.1≠k)→w'.heap[k]? = w.heap[k]?)→K (.slice s'.a s'.n s'.c) w'):opK pG E (xBuiltin .append #[27,27] ty ks [.slice s.a s.n s.c,.slice t2.a t2.n t2.c]) w K:=
  b3i (bytes:=16) Tryz.underlying27 d2b (z:=(Value.string ⟨#[]⟩)) (by kernel_rfl) (by kernel_rfl) (by kernel_rfl) (by kernel_rfl) I hr hs hb h
abbrev i5(x:i7):List Value:=[(Value.string x.f6),(Value.int .i64 x.N2)]
theorem a6Q(x:i7):(i5 x).length=2:=rfl
theorem a8m(x:i7):(i5 x).all (·.oneCell')=true:=rfl
theorem c9n:Tryz.prog.info? 70=some ((Tryz.prog.info? 70).getD default):=by kernel_rfl
theorem c3U{E:Pan}{w0 w:World}{ps:Nat→Prop}{H0 H:Hp}{Fs:List Frag}{K:Value→World→Prop}{s:Sl}{xs:List i7}{F:Frag}{t2:Sl}{ys:List i7}{ks:List Bool}{ty:TypeId}(I:Inv w0 ps H0 H (F::Fs) w)(hr:RowL 70 2 i5 s xs F)(hs:SrcO w i5 t2 ys)(hb:(xs.length+ys.length)*25≤140737488355328)(h:∀(s':Sl)(F':Frag)(w':World),RowL 70 2 i5 s' (xs++ys) F'→Inv w0 ps H0 H (F'::Fs) w'→(∀k,k < w.heap.size→(∀p∈F,p.1≠k)→w'.heap[k]? = w.heap[k]?)→K (.slice s'.a s'.n s'.c) w'):opK pG E (xBuiltin .append #[22,22] ty ks [.slice s.a s.n s.c,.slice t2.a t2.n t2.c]) w K:=
  b3i (bytes:=24) Tryz.underlying22 c9n (z:=(Value.agg #[(Value.string ⟨#[]⟩),(Value.int .i64 0)])) (by kernel_rfl) (by kernel_rfl) (by kernel_rfl) (by kernel_rfl) I hr hs hb h
theorem b6H(a0:ByteArray)(w:World):(Instr.buildSlice 27 1 #[(0,(Value.string a0))]).run pG w=.ok (.slice (some ⟨w.heap.size,0,none⟩) 1 1) (w.alloc (.cells [(Value.string a0)].toArray 9)):=by kernel_rfl
theorem T9{g o:Nat}:Pu pG (xV (Instr.fieldAt 68 (.pointer (some ⟨g,o,none⟩)) 0)) (.pointer (some ⟨g,o+0,none⟩)):=Pu.ok fun w=>by kernel_rfl
theorem b3q{g o:Nat}:Pu pG (xV (Instr.fieldAt 68 (.pointer (some ⟨g,o,none⟩)) 1)) (.pointer (some ⟨g,o+6,none⟩)):=Pu.ok fun w=>by kernel_rfl
theorem P7(a:Option Addr)(n c:Nat):Pu pG (xBuiltin .len #[57] 3 [false] [.slice a n c]) (.int .i64 (n:Int)):=a1e Tryz.underlying57 a n c
theorem b6c{g o:Nat}:Pu pG (xV (Instr.fieldAt 38 (.pointer (some ⟨g,o,none⟩)) 0)) (.pointer (some ⟨g,o+0,none⟩)):=Pu.ok fun w=>by kernel_rfl
theorem b3r{g o:Nat}:Pu pG (xV (Instr.fieldAt 68 (.pointer (some ⟨g,o,none⟩)) 2)) (.pointer (some ⟨g,o+7,none⟩)):=Pu.ok fun w=>by kernel_rfl
theorem P3{g o:Nat}:Pu pG (xV (Instr.fieldAt 25 (.pointer (some ⟨g,o,none⟩)) 0)) (.pointer (some ⟨g,o+0,none⟩)):=Pu.ok fun w=>by kernel_rfl
theorem c2y(a:Option Addr)(n c:Nat):Pu pG (xBuiltin .len #[102] 3 [false] [.slice a n c]) (.int .i64 (n:Int)):=a1e Tryz.underlying102 a n c
theorem b2l{a:Option Addr}{g o:Nat}(ha:a=some ⟨g,o,none⟩)(len cap:Nat)(k:IntKind)(i:Int)(h0:0≤i)(h1:i < len):Pu pG (xV (Instr.indexAt 102 (.slice a len cap) (.int k i))) (.pointer (some ⟨g,o+i.toNat*2,none⟩)):=a1Y Tryz.underlying102 Tryz.sizeOf105 ha len cap k i h0 h1
theorem b2t{g o:Nat}:Pu pG (xV (Instr.fieldAt 105 (.pointer (some ⟨g,o,none⟩)) 0)) (.pointer (some ⟨g,o+0,none⟩)):=Pu.ok fun w=>by kernel_rfl
theorem c0Y{g o:Nat}:Pu pG (xV (Instr.fieldAt 105 (.pointer (some ⟨g,o,none⟩)) 1)) (.pointer (some ⟨g,o+1,none⟩)):=Pu.ok fun w=>by kernel_rfl
theorem c7k(a3w:ByteArray)(a3x:Int)(w:World):(Instr.buildSlice 22 1 #[(0,(Value.agg #[(Value.string a3w),(Value.int .i64 a3x)]))]).run pG w=.ok (.slice (some ⟨w.heap.size,0,none⟩) 1 1) (w.alloc (.cells [(Value.string a3w),(Value.int .i64 a3x)].toArray 70)):=by kernel_rfl
theorem c9o(d:Nat)(a0 b0:ByteArray)(a1 b1:Int)(w:World):(Op.equalIn (d+2) 70 (.agg #[(Value.string a0),(Value.int .i64 a1)]) (.agg #[(Value.string b0),(Value.int .i64 b1)])).run pG w=.ok (decide (a0=b0∧a1=b1)) w:=by
  have u9:=Tryz.underlying9
  have i9:=Tryz.isAgg9
  have s9:=Tryz.sizeOf9
  have u3:=Tryz.underlying3
  have i3:=Tryz.isAgg3
  have s3:=Tryz.sizeOf3
  have hS:Tryz.prog.underlying 70=some (.struct (Tryz.prog.fieldsOf 70)):=by kernel_rfl
  rw [run_equalIn_agg w (d+1) 70 _ _ hS (by kernel_rfl)]
  simp only [Program.fieldsOf,Tryz.underlying70]
  go_simp
  try simp only [b1m]
  by_cases h0:a0=b0
  · by_cases h1:a1=b1
    · simp [h0,h1]
    · simp [h0,h1]
  · simp [h0]
theorem c5I(x y:Operand)(a0 b0:ByteArray)(a1 b1:Int):Pu pG (xBin .neq 70 x y (.agg #[(Value.string a0),(Value.int .i64 a1)]) (.agg #[(Value.string b0),(Value.int .i64 b1)])) (.bool (!decide (a0=b0∧a1=b1))):=by
  refine Pu.ok (s:=do eqGuard .neq 70 x y (.agg #[(Value.string a0),(Value.int .i64 a1)]) (.agg #[(Value.string b0),(Value.int .i64 b1)]);binOp .neq 70 (.agg #[(Value.string a0),(Value.int .i64 a1)]) (.agg #[(Value.string b0),(Value.int .i64 b1)])) fun w=>?_
  rw [Sem.run_bind,run_eqGuard_agg w _ _ _ _ _ _ (by kernel_rfl),Result.andThen_ok,run_neq_struct,show (10000:Nat)=9998+2 from rfl,c9o]
  rfl
theorem V5{g o:Nat}:Pu pG (xV (Instr.fieldAt 133 (.pointer (some ⟨g,o,none⟩)) 2)) (.pointer (some ⟨g,o+2,none⟩)):=Pu.ok fun w=>by kernel_rfl
theorem b6I(a0:Bool)(a1:Bool):Pu pG (xV (Instr.build 136 #[(0,(Value.bool a0)),(1,(Value.bool a1))])) (.agg #[(Value.bool a0),(Value.bool a1)]):=Pu.ok fun w=>by kernel_rfl
theorem J8{g o:Nat}:Pu pG (xV (Instr.fieldAt 136 (.pointer (some ⟨g,o,none⟩)) 0)) (.pointer (some ⟨g,o+0,none⟩)):=Pu.ok fun w=>by kernel_rfl
theorem b2u{g o:Nat}:Pu pG (xV (Instr.fieldAt 136 (.pointer (some ⟨g,o,none⟩)) 1)) (.pointer (some ⟨g,o+1,none⟩)):=Pu.ok fun w=>by kernel_rfl
theorem a0B(a:Option Addr)(n c:Nat):Pu pG (xBuiltin .len #[58] 3 [false] [.slice a n c]) (.int .i64 (n:Int)):=a1e Tryz.underlying58 a n c
abbrev p9(x:d8):List Value:=[(Value.string x.f6),(Value.bool x.b0C)]
theorem a6X(x:d8):(p9 x).length=2:=rfl
theorem a6Y(x:d8):(p9 x).all (·.oneCell')=true:=rfl
theorem b1o(a0 a1 a2 a3 a4 a5 a6:Int):Pu pG (xV (Instr.build 148 #[(0,.int .i64 a0),(1,.int .i64 a1),(2,.int .i64 a2),(3,.int .i64 a3),(4,.int .i64 a4),(5,.int .i64 a5),(6,.int .i64 a6)])) (.agg #[.int .i64 a0,.int .i64 a1,.int .i64 a2,.int .i64 a3,.int .i64 a4,.int .i64 a5,.int .i64 a6]):=Pu.ok fun w=>by kernel_rfl
theorem c2z(a0 a1 a2 a3 a4 a5 a6:Int)(k:IntKind)(i:Int)(h0:0≤i)(h1:i < 7):Pu pG (xV (Instr.index 148 (.agg #[.int .i64 a0,.int .i64 a1,.int .i64 a2,.int .i64 a3,.int .i64 a4,.int .i64 a5,.int .i64 a6]) (.int k i))) (.int .i64 (([a0,a1,a2,a3,a4,a5,a6]:List Int).getD i.toNat 0)):=by
  obtain rfl | rfl | rfl | rfl | rfl | rfl | rfl:=(by omega:i=0∨i=1∨i=2∨i=3∨i=4∨i=5∨i=6)
  · exact Pu.ok fun w=>by kernel_rfl
  · exact Pu.ok fun w=>by kernel_rfl
  · exact Pu.ok fun w=>by kernel_rfl
  · exact Pu.ok fun w=>by kernel_rfl
  · exact Pu.ok fun w=>by kernel_rfl
  · exact Pu.ok fun w=>by kernel_rfl
  · exact Pu.ok fun w=>by kernel_rfl
theorem c2A  : Pu pG (xV (Instr.build 155 #[])) (.agg #[(Value.slice none 0 0)]):=Pu.ok fun w=>by kernel_rfl
abbrev B3(x:g9):List Value:=[(Value.string x.fname),(Value.int .i64 x.fas)]
theorem a6R(x:g9):(B3 x).length=2:=rfl
theorem a6S(x:g9):(B3 x).all (·.oneCell')=true:=rfl
theorem a3r{g o:Nat}:Pu pG (xV (Instr.fieldAt 155 (.pointer (some ⟨g,o,none⟩)) 0)) (.pointer (some ⟨g,o+0,none⟩)):=Pu.ok fun w=>by kernel_rfl
theorem a7G(a0:ByteArray)(a1:Int):Pu pG (xV (Instr.build 158 #[(0,(Value.string a0)),(1,(Value.int .i64 a1))])) (.agg #[(Value.string a0),(Value.int .i64 a1)]):=Pu.ok fun w=>by kernel_rfl
theorem b3s(a3w:ByteArray)(a3x:Int)(w:World):(Instr.buildSlice 153 1 #[(0,(Value.agg #[(Value.string a3w),(Value.int .i64 a3x)]))]).run pG w=.ok (.slice (some ⟨w.heap.size,0,none⟩) 1 1) (w.alloc (.cells [(Value.string a3w),(Value.int .i64 a3x)].toArray 158)):=by kernel_rfl
theorem c7l:Tryz.prog.info? 158=some ((Tryz.prog.info? 158).getD default):=by kernel_rfl
theorem b4M{E:Pan}{w0 w:World}{ps:Nat→Prop}{H0 H:Hp}{Fs:List Frag}{K:Value→World→Prop}{s:Sl}{xs:List g9}{F:Frag}{t2:Sl}{ys:List g9}{ks:List Bool}{ty:TypeId}(I:Inv w0 ps H0 H (F::Fs) w)(hr:RowL 158 2 B3 s xs F)(hs:SrcO w B3 t2 ys)(hb:(xs.length+ys.length)*25≤140737488355328)(h:∀(s':Sl)(F':Frag)(w':World),RowL 158 2 B3 s' (xs++ys) F'→Inv w0 ps H0 H (F'::Fs) w'→(∀k,k < w.heap.size→(∀p∈F,p.1≠k)→w'.heap[k]? = w.heap[k]?)→K (.slice s'.a s'.n s'.c) w'):opK pG E (xBuiltin .append #[153,153] ty ks [.slice s.a s.n s.c,.slice t2.a t2.n t2.c]) w K:=
  b3i (bytes:=24) Tryz.underlying153 c7l (z:=(Value.agg #[(Value.string ⟨#[]⟩),(Value.int .i64 0)])) (by kernel_rfl) (by kernel_rfl) (by kernel_rfl) (by kernel_rfl) I hr hs hb h
theorem c3V{a:Option Addr}{g o:Nat}(ha:a=some ⟨g,o,none⟩)(len cap:Nat)(k:IntKind)(i:Int)(h0:0≤i)(h1:i < len):Pu pG (xV (Instr.indexAt 153 (.slice a len cap) (.int k i))) (.pointer (some ⟨g,o+i.toNat*2,none⟩)):=a1Y Tryz.underlying153 Tryz.sizeOf158 ha len cap k i h0 h1
theorem b2v{g o:Nat}:Pu pG (xV (Instr.fieldAt 158 (.pointer (some ⟨g,o,none⟩)) 0)) (.pointer (some ⟨g,o+0,none⟩)):=Pu.ok fun w=>by kernel_rfl
theorem c0Z{g o:Nat}:Pu pG (xV (Instr.fieldAt 158 (.pointer (some ⟨g,o,none⟩)) 1)) (.pointer (some ⟨g,o+1,none⟩)):=Pu.ok fun w=>by kernel_rfl
theorem c1a(x y:Operand)(s:Sl):Pu pG (xBin .eql 22 x y (vs s) (.slice none 0 0)) (.bool s.a.isNone):=c3J _ _ _ s Tryz.underlying22
theorem c7m(w:World):(Instr.buildSlice 22 0 #[]).run pG w=.ok (.slice (some ⟨w.heap.size,0,none⟩) 0 0) (w.alloc (.cells [].toArray 70)):=by kernel_rfl
theorem a7S(a0:Int)(a1:Int)(a2:Int)(a3:Int)(a4:Int)(b9f:Int)(b9g:Int)(b9h:Int)(b9i:Int):Pu pG (xV (Instr.build 40 #[(0,(Value.int .i64 a0)),(1,(Value.int .i64 a1)),(2,(Value.int .i64 a2)),(3,(Value.int .i64 a3)),(4,(Value.int .i64 a4)),(6,(Value.agg #[(Value.int .i64 b9f),(Value.int .i64 b9g)])),(7,(Value.agg #[(Value.int .i64 b9h),(Value.int .i64 b9i)]))])) (.agg #[(Value.int .i64 a0),(Value.int .i64 a1),(Value.int .i64 a2),(Value.int .i64 a3),(Value.int .i64 a4),(Value.int .i64 0),(Value.int .i64 b9f),(Value.int .i64 b9g),(Value.int .i64 b9h),(Value.int .i64 b9i)]):=Pu.ok fun w=>by kernel_rfl
theorem c2B  : Pu pG (xV (Instr.build 133 #[])) (.agg #[(Value.int .i64 0),(Value.int .i64 0),(Value.int .i64 0)]):=Pu.ok fun w=>by kernel_rfl
theorem b2w{g o:Nat}:Pu pG (xV (Instr.fieldAt 133 (.pointer (some ⟨g,o,none⟩)) 0)) (.pointer (some ⟨g,o+0,none⟩)):=Pu.ok fun w=>by kernel_rfl
theorem b5u{g o:Nat}:Pu pG (xV (Instr.fieldAt 133 (.pointer (some ⟨g,o,none⟩)) 1)) (.pointer (some ⟨g,o+1,none⟩)):=Pu.ok fun w=>by kernel_rfl
theorem b2Q(a0:ByteArray)(a1:Bool):Pu pG (xV (Instr.build 105 #[(0,(Value.string a0)),(1,(Value.bool a1))])) (.agg #[(Value.string a0),(Value.bool a1)]):=Pu.ok fun w=>by kernel_rfl
theorem b9l(a3w:ByteArray)(a3x:Bool)(w:World):(Instr.buildSlice 102 1 #[(0,(Value.agg #[(Value.string a3w),(Value.bool a3x)]))]).run pG w=.ok (.slice (some ⟨w.heap.size,0,none⟩) 1 1) (w.alloc (.cells [(Value.string a3w),(Value.bool a3x)].toArray 105)):=by kernel_rfl
theorem c7n:Tryz.prog.info? 105=some ((Tryz.prog.info? 105).getD default):=by kernel_rfl
theorem c1r{E:Pan}{w0 w:World}{ps:Nat→Prop}{H0 H:Hp}{Fs:List Frag}{K:Value→World→Prop}{s:Sl}{xs:List d8}{F:Frag}{t2:Sl}{ys:List d8}{ks:List Bool}{ty:TypeId}(I:Inv w0 ps H0 H (F::Fs) w)(hr:RowL 105 2 p9 s xs F)(hs:SrcO w p9 t2 ys)(hb:(xs.length+ys.length)*25≤140737488355328)(h:∀(s':Sl)(F':Frag)(w':World),RowL 105 2 p9 s' (xs++ys) F'→Inv w0 ps H0 H (F'::Fs) w'→(∀k,k < w.heap.size→(∀p∈F,p.1≠k)→w'.heap[k]? = w.heap[k]?)→K (.slice s'.a s'.n s'.c) w'):opK pG E (xBuiltin .append #[102,102] ty ks [.slice s.a s.n s.c,.slice t2.a t2.n t2.c]) w K:=
  b3i (bytes:=24) Tryz.underlying102 c7n (z:=(Value.agg #[(Value.string ⟨#[]⟩),(Value.bool false)])) (by kernel_rfl) (by kernel_rfl) (by kernel_rfl) (by kernel_rfl) I hr hs hb h
theorem a8f{g o:Nat}:Pu pG (xV (Instr.fieldAt 169 (.pointer (some ⟨g,o,none⟩)) 2)) (.pointer (some ⟨g,o+2,none⟩)):=Pu.ok fun w=>by kernel_rfl
theorem b3t(s:ByteArray):Pu pG (xBuiltin .len #[9] 3 [false] [.string s]) (.int .i64 (s.size:Int)):=c2s _ _ s Tryz.underlying9
theorem b9m(a0a:Option Addr)(a0n a0c:Nat)(a1a:Option Addr)(a1n a1c:Nat)(w:World):(Instr.buildSlice 192 2 #[(0,(Value.slice a0a a0n a0c)),(1,(Value.slice a1a a1n a1c))]).run pG w=.ok (.slice (some ⟨w.heap.size,0,none⟩) 2 2) (w.alloc (.cells [(Value.slice a0a a0n a0c),(Value.slice a1a a1n a1c)].toArray 179)):=by kernel_rfl
theorem b0a(a5 a6 a7 a8 a9 a10 a3 a4:Int):Pu pG (xV (Instr.build 187 #[(5,.int .i64 a5),(6,.int .i64 a6),(7,.int .i64 a7),(8,.int .i64 a8),(9,.int .i64 a9),(10,.int .i64 a10),(3,.int .i64 a3),(4,.int .i64 a4)])) (.agg #[.int .i64 0,.int .i64 0,.int .i64 0,.int .i64 a3,.int .i64 a4,.int .i64 a5,.int .i64 a6,.int .i64 a7,.int .i64 a8,.int .i64 a9,.int .i64 a10]):=Pu.ok fun w=>by kernel_rfl
theorem c2C(a0 a1 a2 a3 a4 a5 a6 a7 a8 a9 a10:Int)(k:IntKind)(i:Int)(h0:0≤i)(h1:i < 11):Pu pG (xV (Instr.index 187 (.agg #[.int .i64 a0,.int .i64 a1,.int .i64 a2,.int .i64 a3,.int .i64 a4,.int .i64 a5,.int .i64 a6,.int .i64 a7,.int .i64 a8,.int .i64 a9,.int .i64 a10]) (.int k i))) (.int .i64 (([a0,a1,a2,a3,a4,a5,a6,a7,a8,a9,a10]:List Int).getD i.toNat 0)):=by
  obtain rfl | rfl | rfl | rfl | rfl | rfl | rfl | rfl | rfl | rfl | rfl:=(by omega:i=0∨i=1∨i=2∨i=3∨i=4∨i=5∨i=6∨i=7∨i=8∨i=9∨i=10)
  · exact Pu.ok fun w=>by kernel_rfl
  · exact Pu.ok fun w=>by kernel_rfl
  · exact Pu.ok fun w=>by kernel_rfl
  · exact Pu.ok fun w=>by kernel_rfl
  · exact Pu.ok fun w=>by kernel_rfl
  · exact Pu.ok fun w=>by kernel_rfl
  · exact Pu.ok fun w=>by kernel_rfl
  · exact Pu.ok fun w=>by kernel_rfl
  · exact Pu.ok fun w=>by kernel_rfl
  · exact Pu.ok fun w=>by kernel_rfl
  · exact Pu.ok fun w=>by kernel_rfl
theorem b2R(s:ByteArray)(k:IntKind)(i:Int)(h0:0≤i)(h1:i < s.size):Pu pG (xV (Instr.index 9 (.string s) (.int k i))) (.int .u8 ((s.get! i.toNat).toNat:Int)):=b8W _ s k i Tryz.underlying9 h0 h1
theorem b4n(k:IntKind)(n:Int):Pu pG (xV (convert 5 3 (.int k n))) (.int .i64 (IntKind.wrap .i64 n)):=Pu.ok fun w=>run_convert_int (P:=pG) (w:=w) 5 3 k n (by rw [Tryz.underlying5];rfl) Tryz.underlying3
theorem c2D  : Pu pG (xV (Instr.build 169 #[])) (.agg #[(Value.int .i64 0),(Value.int .i64 0),(Value.int .i64 0),(Value.bool false),(Value.bool false),(Value.slice none 0 0)]):=Pu.ok fun w=>by kernel_rfl
theorem b0G(a:Option Addr)(n c:Nat):Pu pG (xBuiltin .len #[179] 3 [false] [.slice a n c]) (.int .i64 (n:Int)):=a1e Tryz.underlying179 a n c
theorem c3W{a:Option Addr}{g o:Nat}(ha:a=some ⟨g,o,none⟩)(len cap:Nat)(k:IntKind)(i:Int)(h0:0≤i)(h1:i < len):Pu pG (xV (Instr.indexAt 179 (.slice a len cap) (.int k i))) (.pointer (some ⟨g,o+i.toNat*1,none⟩)):=a1Y Tryz.underlying179 Tryz.sizeOf182 ha len cap k i h0 h1
theorem b2x{g o:Nat}:Pu pG (xV (Instr.fieldAt 169 (.pointer (some ⟨g,o,none⟩)) 0)) (.pointer (some ⟨g,o+0,none⟩)):=Pu.ok fun w=>by kernel_rfl
theorem b5v{g o:Nat}:Pu pG (xV (Instr.fieldAt 169 (.pointer (some ⟨g,o,none⟩)) 1)) (.pointer (some ⟨g,o+1,none⟩)):=Pu.ok fun w=>by kernel_rfl
theorem b2y{g o:Nat}:Pu pG (xV (Instr.fieldAt 169 (.pointer (some ⟨g,o,none⟩)) 3)) (.pointer (some ⟨g,o+3,none⟩)):=Pu.ok fun w=>by kernel_rfl
theorem b2z{g o:Nat}:Pu pG (xV (Instr.fieldAt 169 (.pointer (some ⟨g,o,none⟩)) 4)) (.pointer (some ⟨g,o+4,none⟩)):=Pu.ok fun w=>by kernel_rfl
theorem b2A{g o:Nat}:Pu pG (xV (Instr.fieldAt 169 (.pointer (some ⟨g,o,none⟩)) 5)) (.pointer (some ⟨g,o+5,none⟩)):=Pu.ok fun w=>by kernel_rfl
theorem b6d(a:Option Addr)(n c:Nat):Pu pG (xBuiltin .len #[192] 3 [false] [.slice a n c]) (.int .i64 (n:Int)):=a1e Tryz.underlying192 a n c
theorem b8f{a:Option Addr}{g o:Nat}(ha:a=some ⟨g,o,none⟩)(len cap:Nat)(k:IntKind)(i:Int)(h0:0≤i)(h1:i < len):Pu pG (xV (Instr.indexAt 192 (.slice a len cap) (.int k i))) (.pointer (some ⟨g,o+i.toNat*1,none⟩)):=a1Y Tryz.underlying192 Tryz.sizeOf179 ha len cap k i h0 h1
theorem c3X(s:ByteArray):Pu pG (xV (Instr.makeInterface 9 (.string s))) (.iface 9 (.string s)):=Pu.ok fun w=>by kernel_rfl
abbrev v7(x:f5):List Value:=[(K8 x)]
theorem U8(x:f5):(v7 x).length=1:=rfl
theorem a0b(x:f5):(v7 x).all (·.oneCell')=true:=b8w x
theorem c1s:Tryz.prog.info? 182=some ((Tryz.prog.info? 182).getD default):=by kernel_rfl
theorem b2S{E:Pan}{w0 w:World}{ps:Nat→Prop}{H0 H:Hp}{Fs:List Frag}{K:Value→World→Prop}{s:Sl}{xs:List f5}{F:Frag}{t2:Sl}{ys:List f5}{ks:List Bool}{ty:TypeId}(I:Inv w0 ps H0 H (F::Fs) w)(hr:RowL 182 1 v7 s xs F)(hs:SrcO w v7 t2 ys)(hb:(xs.length+ys.length)*17≤140737488355328)(h:∀(s':Sl)(F':Frag)(w':World),RowL 182 1 v7 s' (xs++ys) F'→Inv w0 ps H0 H (F'::Fs) w'→(∀k,k < w.heap.size→(∀p∈F,p.1≠k)→w'.heap[k]? = w.heap[k]?)→K (.slice s'.a s'.n s'.c) w'):opK pG E (xBuiltin .append #[179,179] ty ks [.slice s.a s.n s.c,.slice t2.a t2.n t2.c]) w K:=
  b3i (bytes:=16) Tryz.underlying179 c1s (z:=Value.nilIface) (by kernel_rfl) (by kernel_rfl) (by kernel_rfl) (by kernel_rfl) I hr hs hb h
theorem b9n(a3w:ByteArray)(a3x:Int):Pu pG (xV (Instr.build 195 #[(0,(Value.agg #[(Value.string a3w),(Value.int .i64 a3x)]))])) (.agg #[(Value.string a3w),(Value.int .i64 a3x)]):=Pu.ok fun w=>by kernel_rfl
theorem b6J(x:a0D):Pu pG (xV (Instr.makeInterface 195 (.agg #[(Value.string x.a1J.f6),(Value.int .i64 x.a1J.N2)]))) (K8 (f5.O5 x)):=Pu.ok fun w=>rfl
theorem b9o(a3w:Int)(a3x:ByteArray)(a0_2a:Option Addr)(a0_2n a0_2c:Nat)(a0_3a:Option Addr)(a0_3n a0_3c:Nat)(a0_4a:Option Addr)(a0_4n a0_4c:Nat)(a0_5a:Option Addr)(a0_5n a0_5c:Nat):Pu pG (xV (Instr.build 197 #[(0,(Value.agg #[(Value.int .i64 a3w),(Value.string a3x),(Value.slice a0_2a a0_2n a0_2c),(Value.slice a0_3a a0_3n a0_3c),(Value.slice a0_4a a0_4n a0_4c),(Value.slice a0_5a a0_5n a0_5c)]))])) (.agg #[(Value.int .i64 a3w),(Value.string a3x),(Value.slice a0_2a a0_2n a0_2c),(Value.slice a0_3a a0_3n a0_3c),(Value.slice a0_4a a0_4n a0_4c),(Value.slice a0_5a a0_5n a0_5c)]):=Pu.ok fun w=>by kernel_rfl
theorem b6K(x:W6):Pu pG (xV (Instr.makeInterface 197 (.agg #[(Value.int .i64 x.m1.c8),(Value.string x.m1.f6),(Value.slice x.m1.l7.a x.m1.l7.n x.m1.l7.c),(Value.slice x.m1.r9.a x.m1.r9.n x.m1.r9.c),(Value.slice x.m1.K5.a x.m1.K5.n x.m1.K5.c),(Value.slice x.m1.L2.a x.m1.L2.n x.m1.L2.c)]))) (K8 (f5.L6 x)):=Pu.ok fun w=>rfl
theorem b8z(x:f5):Pu pG (xV (Instr.typeAssert (K8 x) 182 195 true)) (.tuple #[(Value.agg #[(Value.string ((((x.a5c)).a1J).f6)),(Value.int .i64 ((((x.a5c)).a1J).N2))]),.bool (x.a7C)]):=by
  cases x<;>exact Pu.ok fun w=>by kernel_rfl
theorem b2B{g o:Nat}:Pu pG (xV (Instr.fieldAt 195 (.pointer (some ⟨g,o,none⟩)) 0)) (.pointer (some ⟨g,o+0,none⟩)):=Pu.ok fun w=>by kernel_rfl
theorem b8A(x:f5):Pu pG (xV (Instr.typeAssert (K8 x) 182 197 true)) (.tuple #[(Value.agg #[(Value.int .i64 ((((x.z8)).m1).c8)),(Value.string ((((x.z8)).m1).f6)),(Value.slice ((((x.z8)).m1).l7).a ((((x.z8)).m1).l7).n ((((x.z8)).m1).l7).c),(Value.slice ((((x.z8)).m1).r9).a ((((x.z8)).m1).r9).n ((((x.z8)).m1).r9).c),(Value.slice ((((x.z8)).m1).K5).a ((((x.z8)).m1).K5).n ((((x.z8)).m1).K5).c),(Value.slice ((((x.z8)).m1).L2).a ((((x.z8)).m1).L2).n ((((x.z8)).m1).L2).c)]),.bool (x.a7D)]):=by
  cases x<;>exact Pu.ok fun w=>by kernel_rfl
theorem R0{g o:Nat}:Pu pG (xV (Instr.fieldAt 197 (.pointer (some ⟨g,o,none⟩)) 0)) (.pointer (some ⟨g,o+0,none⟩)):=Pu.ok fun w=>by kernel_rfl
theorem b8B(x:f5):Pu pG (xV (Instr.typeAssert (K8 x) 182 202 true)) (.tuple #[(Value.agg #[(Value.int .i64 ((((x.L1)).y7).c8)),(Value.int .i64 ((((x.L1)).y7).s7)),(Value.string ((((x.L1)).y7).f6)),(Value.slice ((((x.L1)).y7).u1).a ((((x.L1)).y7).u1).n ((((x.L1)).y7).u1).c)]),.bool (x.a7E)]):=by
  cases x<;>exact Pu.ok fun w=>by kernel_rfl
theorem a1X{g o:Nat}:Pu pG (xV (Instr.fieldAt 202 (.pointer (some ⟨g,o,none⟩)) 0)) (.pointer (some ⟨g,o+0,none⟩)):=Pu.ok fun w=>by kernel_rfl
theorem a5d(a0:Int)(a1:Int):Pu pG (xV (Instr.build 230 #[(0,(Value.int .i64 a0)),(1,(Value.int .i64 a1))])) (.agg #[(Value.int .i64 a0),(Value.int .i64 a1)]):=Pu.ok fun w=>by kernel_rfl
theorem c7o(d:Nat)(a0 b0:Int)(a1 b1:Int)(w:World):(Op.equalIn (d+2) 230 (.agg #[(Value.int .i64 a0),(Value.int .i64 a1)]) (.agg #[(Value.int .i64 b0),(Value.int .i64 b1)])).run pG w=.ok (decide (a0=b0∧a1=b1)) w:=by
  have u3:=Tryz.underlying3
  have i3:=Tryz.isAgg3
  have s3:=Tryz.sizeOf3
  have hS:Tryz.prog.underlying 230=some (.struct (Tryz.prog.fieldsOf 230)):=by kernel_rfl
  rw [run_equalIn_agg w (d+1) 230 _ _ hS (by kernel_rfl)]
  simp only [Program.fieldsOf,Tryz.underlying230]
  go_simp
  try simp only [b1m]
  by_cases h0:a0=b0
  · by_cases h1:a1=b1
    · simp [h0,h1]
    · simp [h0,h1]
  · simp [h0]
theorem a8B(x y:Operand)(a0 b0:Int)(a1 b1:Int):Pu pG (xBin .eql 230 x y (.agg #[(Value.int .i64 a0),(Value.int .i64 a1)]) (.agg #[(Value.int .i64 b0),(Value.int .i64 b1)])) (.bool (decide (a0=b0∧a1=b1))):=by
  refine Pu.ok (s:=do eqGuard .eql 230 x y (.agg #[(Value.int .i64 a0),(Value.int .i64 a1)]) (.agg #[(Value.int .i64 b0),(Value.int .i64 b1)]);binOp .eql 230 (.agg #[(Value.int .i64 a0),(Value.int .i64 a1)]) (.agg #[(Value.int .i64 b0),(Value.int .i64 b1)])) fun w=>?_
  rw [Sem.run_bind,run_eqGuard_agg w _ _ _ _ _ _ (by kernel_rfl),Result.andThen_ok,run_eql_struct,show (10000:Nat)=9998+2 from rfl,c7o]
  rfl
theorem c2E  : Pu pG (xV (Instr.build 230 #[])) (.agg #[(Value.int .i64 0),(Value.int .i64 0)]):=Pu.ok fun w=>by kernel_rfl
theorem c5J(a0a:Option Addr)(a0n a0c:Nat)(a1a:Option Addr)(a1n a1c:Nat)(a2a:Option Addr)(a2n a2c:Nat)(a3a:Option Addr)(a3n a3c:Nat)(w:World):(Instr.buildSlice 192 4 #[(0,(Value.slice a0a a0n a0c)),(1,(Value.slice a1a a1n a1c)),(2,(Value.slice a2a a2n a2c)),(3,(Value.slice a3a a3n a3c))]).run pG w=.ok (.slice (some ⟨w.heap.size,0,none⟩) 4 4) (w.alloc (.cells [(Value.slice a0a a0n a0c),(Value.slice a1a a1n a1c),(Value.slice a2a a2n a2c),(Value.slice a3a a3n a3c)].toArray 179)):=by kernel_rfl
theorem b9p(a3w:Int)(a3x:Int)(a0_2a:Option Addr)(a0_2n a0_2c:Nat)(a0_3a:Option Addr)(a0_3n a0_3c:Nat):Pu pG (xV (Instr.build 236 #[(0,(Value.agg #[(Value.int .i64 a3w),(Value.int .i64 a3x),(Value.slice a0_2a a0_2n a0_2c),(Value.slice a0_3a a0_3n a0_3c)]))])) (.agg #[(Value.int .i64 a3w),(Value.int .i64 a3x),(Value.slice a0_2a a0_2n a0_2c),(Value.slice a0_3a a0_3n a0_3c)]):=Pu.ok fun w=>by kernel_rfl
theorem b6L(x:W7):Pu pG (xV (Instr.makeInterface 236 (.agg #[(Value.int .i64 x.s6.c8),(Value.int .i64 x.s6.fOp),(Value.slice x.s6.l7.a x.s6.l7.n x.s6.l7.c),(Value.slice x.s6.r7.a x.s6.r7.n x.s6.r7.c)]))) (K8 (f5.P5 x)):=Pu.ok fun w=>rfl
theorem b9q(a3w:Int)(a3x:Int)(b9j:ByteArray)(a0_3a:Option Addr)(a0_3n a0_3c:Nat):Pu pG (xV (Instr.build 202 #[(0,(Value.agg #[(Value.int .i64 a3w),(Value.int .i64 a3x),(Value.string b9j),(Value.slice a0_3a a0_3n a0_3c)]))])) (.agg #[(Value.int .i64 a3w),(Value.int .i64 a3x),(Value.string b9j),(Value.slice a0_3a a0_3n a0_3c)]):=Pu.ok fun w=>by kernel_rfl
theorem b2T(x:P2):Pu pG (xV (Instr.makeInterface 202 (.agg #[(Value.int .i64 x.y7.c8),(Value.int .i64 x.y7.s7),(Value.string x.y7.f6),(Value.slice x.y7.u1.a x.y7.u1.n x.y7.u1.c)]))) (K8 (f5.K7 x)):=Pu.ok fun w=>rfl
theorem a3s{g o:Nat}:Pu pG (xV (Instr.fieldAt 236 (.pointer (some ⟨g,o,none⟩)) 0)) (.pointer (some ⟨g,o+0,none⟩)):=Pu.ok fun w=>by kernel_rfl
theorem a7H(a0:Int)(a1:Int):Pu pG (xV (Instr.build 239 #[(0,(Value.int .i64 a0)),(1,(Value.int .i64 a1))])) (.agg #[(Value.int .i64 a0),(Value.int .i64 a1)]):=Pu.ok fun w=>by kernel_rfl
theorem c7p(d:Nat)(a0 b0:Int)(a1 b1:Int)(w:World):(Op.equalIn (d+2) 239 (.agg #[(Value.int .i64 a0),(Value.int .i64 a1)]) (.agg #[(Value.int .i64 b0),(Value.int .i64 b1)])).run pG w=.ok (decide (a0=b0∧a1=b1)) w:=by
  have u3:=Tryz.underlying3
  have i3:=Tryz.isAgg3
  have s3:=Tryz.sizeOf3
  have hS:Tryz.prog.underlying 239=some (.struct (Tryz.prog.fieldsOf 239)):=by kernel_rfl
  rw [run_equalIn_agg w (d+1) 239 _ _ hS (by kernel_rfl)]
  simp only [Program.fieldsOf,Tryz.underlying239]
  go_simp
  try simp only [b1m]
  by_cases h0:a0=b0
  · by_cases h1:a1=b1
    · simp [h0,h1]
    · simp [h0,h1]
  · simp [h0]
theorem b2m(x y:Operand)(a0 b0:Int)(a1 b1:Int):Pu pG (xBin .eql 239 x y (.agg #[(Value.int .i64 a0),(Value.int .i64 a1)]) (.agg #[(Value.int .i64 b0),(Value.int .i64 b1)])) (.bool (decide (a0=b0∧a1=b1))):=by
  refine Pu.ok (s:=do eqGuard .eql 239 x y (.agg #[(Value.int .i64 a0),(Value.int .i64 a1)]) (.agg #[(Value.int .i64 b0),(Value.int .i64 b1)]);binOp .eql 239 (.agg #[(Value.int .i64 a0),(Value.int .i64 a1)]) (.agg #[(Value.int .i64 b0),(Value.int .i64 b1)])) fun w=>?_
  rw [Sem.run_bind,run_eqGuard_agg w _ _ _ _ _ _ (by kernel_rfl),Result.andThen_ok,run_eql_struct,show (10000:Nat)=9998+2 from rfl,c7p]
  rfl
theorem c2F  : Pu pG (xV (Instr.build 239 #[])) (.agg #[(Value.int .i64 0),(Value.int .i64 0)]):=Pu.ok fun w=>by kernel_rfl
theorem b3u(a0:f5)(w:World):(Instr.buildSlice 179 1 #[(0,(K8 a0))]).run pG w=.ok (.slice (some ⟨w.heap.size,0,none⟩) 1 1) (w.alloc (.cells [(K8 a0)].toArray 182)):=by cases a0<;>kernel_rfl
abbrev m5(x:m6):List Value:=[(Value.slice x.E4.a x.E4.n x.E4.c),(Value.slice x.a1l.a x.a1l.n x.a1l.c)]
abbrev z6(x:m3):List Value:=[(Value.slice x.p7.a x.p7.n x.p7.c),(Value.int .i64 x.q9),(Value.slice x.o9.a x.o9.n x.o9.c),(Value.int .i64 x.p5),(Value.int .i64 x.u5),(Value.slice x.R3.a x.R3.n x.R3.c)]
abbrev m7(x:m4):List Value:=[(Value.int .i64 x.B7),(Value.int .i64 x.s7)]
abbrev d7(x:f8):List Value:=[(Value.int .i64 x.c8),(Value.int .i64 x.s7),(Value.string x.f6),(Value.slice x.u1.a x.u1.n x.u1.c)]
abbrev f7(x:j8):List Value:=[(Value.int .i64 x.c8),(Value.int .i64 x.fOp),(Value.slice x.l7.a x.l7.n x.l7.c),(Value.slice x.r7.a x.r7.n x.r7.c)]
abbrev o7(x:d4):List Value:=[(Value.int .i64 x.fn),(Value.int .i64 x.fdepth),(Value.int .i64 x.fbad)]
abbrev o5(x:d3):List Value:=[(Value.bool x.fok),(Value.bool x.fnames)]
abbrev b2U(x:o4):List Value:=[(Value.int .i64 x.fnodes),(Value.int .i64 x.fdepth),(Value.int .i64 x.fe),(Value.bool x.fform),(Value.bool x.fnamed),(Value.slice x.fnames.a x.fnames.n x.fnames.c)]
end Go.Proofs.YtaokfhdinhimfaaGreatDoor
