/- Contracts of the program's functions; printed by lift.py off the code. -/
import Derived.Test.YtaokfhdinhimfaaGreatDooryCU1
import Derived.Test.YtaokfhdinhimfaaGreatDooryCG1a
import Derived.Test.YtaokfhdinhimfaaGreatDooryCG1b
import Derived.Test.YtaokfhdinhimfaaGreatDooryCG1c
import Derived.Test.YtaokfhdinhimfaaGreatDooryCG1d
namespace Go.Proofs.YtaokfhdinhimfaaGreatDoor
open Go.RowKit
set_option maxRecDepth 100000
set_option maxHeartbeats 2000000
def T1(x0:m9)(l:(List Bool))(m:(List Int))(x1:Int)(H:Hp)(K:m9→(List Bool)→(List Int)→Hp→Prop):Prop:=
 ∀(g0:Nat),∀(a:Sl)(b:Frag)(c:Sl)(d:Frag),RowL 4 1 E5 a l b→RowL 3 1 o3 c m d→Ct pG 60 [(Value.pointer (some ⟨g0,0,none⟩)),(vi x1)] H [bx g0 96 (a7G x0 a c),b,d] (fun v H' Fo=>∃(y0:m9)(e:(List Bool))(f:(List Int))(g:Sl)(i:Frag)(j:Sl)(k:Frag),v=(Value.tuple #[])∧Fo=[bx g0 96 (a7G y0 g j),i,k]∧RowL 4 1 E5 g e i∧RowL 3 1 o3 j f k∧K y0 e f H') noQE
def a0k(x0:d4)(H:Hp)(K:m9→Hp→Prop):Prop:=
 Ct pG 43 [(Value.agg (d8 x0).toArray)] H [] (fun v H' Fo=>∃(r0:m9)(gr0:Nat),v=(Value.pointer (some ⟨gr0,0,none⟩))∧Fo=[bx gr0 96 (W4 r0)]∧K r0 H') noQE
def Z5(x0:d4)(H:Hp)(K:Sl→Hp→Prop):Prop:=
 Ct pG 20 [(Value.agg (d8 x0).toArray)] H [] (fun v H' Fo=>∃(r0:Sl),v=(vs r0)∧Fo=[]∧K r0 H') noQE
def a2v(x0:d4)(H:Hp)(K:Sl→Hp→Prop):Prop:=
 Ct pG 19 [(Value.agg (d8 x0).toArray)] H [] (fun v H' Fo=>∃(r0:Sl),v=(vs r0)∧Fo=[]∧K r0 H') noQE
def N6(x0:Sl)(x1:Sl)(H:Hp)(K:Bool→Hp→Prop):Prop:=
 Ct pG 16 [(vs x0),(vs x1)] H [] (fun v H' Fo=>∃(r0:Bool),v=(vB r0)∧Fo=[]∧K r0 H') noQE
def a1f(x0:d4)(H:Hp)(K:Sl→Hp→Prop):Prop:=
 Ct pG 18 [(Value.agg (d8 x0).toArray)] H [] (fun v H' Fo=>∃(r0:Sl),v=(vs r0)∧Fo=[]∧K r0 H') noQE
def a8s(x0:A8)(H:Hp)(K:d4→Int→Hp→Prop):Prop:=
 Ct pG 6 [(Value.agg (v8 x0).toArray)] H [] (fun v H' Fo=>∃(r0:d4)(r1:Int),v=(Value.tuple #[(Value.agg (d8 r0).toArray),(vi r1)])∧Fo=[]∧K r0 r1 H') noQE
def a2w(H:Hp)(K:Bool→Hp→Prop):Prop:=
 Ct pG 5 [] H [] (fun v H' Fo=>∃(r0:Bool),v=(vB r0)∧Fo=[]∧K r0 H') noQE
def a3O(x0:Int)(H:Hp)(K:Int→Hp→Prop):Prop:=
 Ct pG 52 [(vi x0)] H [] (fun v H' Fo=>∃(r0:Int),v=(vi r0)∧Fo=[]∧K r0 H') noQE
def a3k(x0:d4)(x1:Sl)(H:Hp)(K:Bool→Hp→Prop):Prop:=
 Ct pG 35 [(Value.agg (d8 x0).toArray),(vs x1)] H [] (fun v H' Fo=>∃(r0:Bool),v=(vB r0)∧Fo=[]∧K r0 H') noQE
def a0u(x0:d4)(H:Hp)(K:Int→Hp→Prop):Prop:=
 Ct pG 33 [(Value.agg (d8 x0).toArray)] H [] (fun v H' Fo=>∃(r0:Int),v=(vi r0)∧Fo=[]∧K r0 H') noQE
def a3l(H:Hp)(K:i6→Hp→Prop):Prop:=
 Ct pG 91 [] H [] (fun v H' Fo=>∃(r0:i6),v=(Value.agg (j6 r0).toArray)∧Fo=[]∧K r0 H') noQE
def V9(x0:i6)(x1:Bool)(x2:Int)(H:Hp)(K:Bool→Hp→Prop):Prop:=
 Ct pG 51 [(Value.agg (j6 x0).toArray),(vB x1),(vi x2)] H [] (fun v H' Fo=>∃(r0:Bool),v=(vB r0)∧Fo=[]∧K r0 H') noQE
def a2x(x0:c8)(x1:Int)(x2:Int)(H:Hp)(K:Bool→Hp→Prop):Prop:=
 Ct pG 34 [(Value.agg (f7 x0).toArray),(vi x1),(vi x2)] H [] (fun v H' Fo=>∃(r0:Bool),v=(vB r0)∧Fo=[]∧K r0 H') noQE
def a2y(x0:d4)(H:Hp)(K:Int→Hp→Prop):Prop:=
 Ct pG 9 [(Value.agg (d8 x0).toArray)] H [] (fun v H' Fo=>∃(r0:Int),v=(vi r0)∧Fo=[]∧K r0 H') noQE
def a1g(x0:d4)(H:Hp)(K:d4→Hp→Prop):Prop:=
 Ct pG 10 [(Value.agg (d8 x0).toArray)] H [] (fun v H' Fo=>∃(r0:d4),v=(Value.agg (d8 r0).toArray)∧Fo=[]∧K r0 H') noQE
def a3m(x0:Int)(H:Hp)(K:Int→Hp→Prop):Prop:=
 Ct pG 59 [(vi x0)] H [] (fun v H' Fo=>∃(r0:Int),v=(vi r0)∧Fo=[]∧K r0 H') noQE
def a6C(x0:Sl)(H:Hp)(K:Bool→Hp→Prop):Prop:=
 Ct pG 42 [(vs x0)] H [] (fun v H' Fo=>∃(r0:Bool),v=(vB r0)∧Fo=[]∧K r0 H') noQE
def S1(x0:g8)(x1:Int)(H:Hp)(K:Bool→Hp→Prop):Prop:=
 Ct pG 40 [(Value.agg (d8 x0.s8).toArray),(vi x1)] H [] (fun v H' Fo=>∃(r0:Bool),v=(vB r0)∧Fo=[]∧K r0 H') noQE
def a4W(x0:Int)(H:Hp)(K:i4→Hp→Prop):Prop:=
 Ct pG 53 [(vi x0)] H [] (fun v H' Fo=>∃(r0:i4),v=(Value.agg (a7p r0).toArray)∧Fo=[]∧K r0 H') noQE
def W0(x0:g8)(x1:Int)(H:Hp)(K:Bool→Hp→Prop):Prop:=
 Ct pG 55 [(Value.agg (d8 x0.s8).toArray),(vi x1)] H [] (fun v H' Fo=>∃(r0:Bool),v=(vB r0)∧Fo=[]∧K r0 H') noQE
def Y1(x0:Bool)(x1:Bool)(x2:Bool)(H:Hp)(K:Bool→Hp→Prop):Prop:=
 Ct pG 54 [(vB x0),(vB x1),(vB x2)] H [] (fun v H' Fo=>∃(r0:Bool),v=(vB r0)∧Fo=[]∧K r0 H') noQE
def a3o(x0:g8)(x1:Int)(H:Hp)(K:Bool→Hp→Prop):Prop:=
 Ct pG 56 [(Value.agg (d8 x0.s8).toArray),(vi x1)] H [] (fun v H' Fo=>∃(r0:Bool),v=(vB r0)∧Fo=[]∧K r0 H') noQE
def X4(x0:g8)(x1:i6)(H:Hp)(K:Bool→Hp→Prop):Prop:=
 Ct pG 57 [(Value.agg (d8 x0.s8).toArray),(Value.agg (j6 x1).toArray)] H [] (fun v H' Fo=>∃(r0:Bool),v=(vB r0)∧Fo=[]∧K r0 H') noQE
def P1(H:Hp)(K:i6→Hp→Prop):Prop:=
 Ct pG 58 [] H [] (fun v H' Fo=>∃(r0:i6),v=(Value.agg (j6 r0).toArray)∧Fo=[]∧K r0 H') noQE
def a3p(x0:g8)(x1:c8)(H:Hp)(K:Bool→Hp→Prop):Prop:=
 Ct pG 41 [(Value.agg (d8 x0.s8).toArray),(Value.agg (f7 x1).toArray)] H [] (fun v H' Fo=>∃(r0:Bool),v=(vB r0)∧Fo=[]∧K r0 H') noQE
def O1(x0:d4)(H:Hp)(K:Int→Hp→Prop):Prop:=
 Ct pG 15 [(Value.agg (d8 x0).toArray)] H [] (fun v H' Fo=>∃(r0:Int),v=(vi r0)∧Fo=[]∧K r0 H') noQE
def a2t(x0:d4)(H:Hp)(K:Sl→Hp→Prop):Prop:=
 Ct pG 36 [(Value.agg (d8 x0).toArray)] H [] (fun v H' Fo=>∃(r0:Sl),v=(vs r0)∧Fo=[]∧K r0 H') noQE
def a6V(x0:d4)(x1:Int)(H:Hp)(K:Sl→Int→Hp→Prop):Prop:=
 Ct pG 11 [(Value.agg (d8 x0).toArray),(vi x1)] H [] (fun v H' Fo=>∃(r0:Sl)(r1:Int),v=(Value.tuple #[(vs r0),(vi r1)])∧Fo=[]∧K r0 r1 H') noQE
def a0V(x0:Int)(x1:Sl)(x1_:(List Bool))(x2:Sl)(x4:d4)(H:Hp)(K:Sl→(List Bool)→Hp→Prop):Prop:=
 ∀(g1 g2 g3 g4:Nat),∀(sx1_:Sl)(Fx1_:Frag),RowL 4 1 E5 sx1_ x1_ Fx1_→Ct pG 37 [(vi x0),(Value.pointer (some ⟨g1,0,none⟩)),(Value.pointer (some ⟨g2,0,none⟩)),(Value.pointer (some ⟨g3,0,none⟩)),(Value.pointer (some ⟨g4,0,none⟩))] H [bx g1 47 [(vs sx1_)],Fx1_,bx g2 83 [(vs x2)],bx g3 87 [(Value.func (.func 37) #[] #[(Value.pointer (some ⟨g1,0,none⟩)),(Value.pointer (some ⟨g2,0,none⟩)),(Value.pointer (some ⟨g3,0,none⟩)),(Value.pointer (some ⟨g4,0,none⟩))])],bx g4 30 (d8 x4)] (fun v H' Fo=>∃(y0:Sl)(y0_:(List Bool))(sy0_:Sl)(Fy0_:Frag),v=(Value.tuple #[])∧Fo=[bx g1 47 [(vs sy0_)],Fy0_,bx g2 83 [(vs x2)],bx g3 87 [(Value.func (.func 37) #[] #[(Value.pointer (some ⟨g1,0,none⟩)),(Value.pointer (some ⟨g2,0,none⟩)),(Value.pointer (some ⟨g3,0,none⟩)),(Value.pointer (some ⟨g4,0,none⟩))])],bx g4 30 (d8 x4)]∧RowL 4 1 E5 sy0_ y0_ Fy0_∧K y0 y0_ H') noQE
def a2z(x0:d4)(H:Hp)(K:Sl→Int→Hp→Prop):Prop:=
 Ct pG 12 [(Value.agg (d8 x0).toArray)] H [] (fun v H' Fo=>∃(r0:Sl)(r1:Int),v=(Value.tuple #[(vs r0),(vi r1)])∧Fo=[]∧K r0 r1 H') noQE
def a2A(x0:Int)(x1:Sl)(x1_:(List Bool))(x2:Sl)(x3:d4)(x5:Sl)(x5_:(List Int))(H:Hp)(K:Sl→(List Bool)→Sl→(List Int)→Hp→Prop):Prop:=
 ∀(g1 g2 g3 g4 g5:Nat),∀(sx1_:Sl)(Fx1_:Frag)(sx5_:Sl)(Fx5_:Frag),RowL 4 1 E5 sx1_ x1_ Fx1_→RowL 3 1 o3 sx5_ x5_ Fx5_→Ct pG 38 [(vi x0),(Value.pointer (some ⟨g1,0,none⟩)),(Value.pointer (some ⟨g2,0,none⟩)),(Value.pointer (some ⟨g3,0,none⟩)),(Value.pointer (some ⟨g4,0,none⟩)),(Value.pointer (some ⟨g5,0,none⟩))] H [bx g1 47 [(vs sx1_)],Fx1_,bx g2 83 [(vs x2)],bx g3 30 (d8 x3),bx g4 87 [(Value.func (.func 38) #[] #[(Value.pointer (some ⟨g1,0,none⟩)),(Value.pointer (some ⟨g2,0,none⟩)),(Value.pointer (some ⟨g3,0,none⟩)),(Value.pointer (some ⟨g4,0,none⟩)),(Value.pointer (some ⟨g5,0,none⟩))])],bx g5 44 [(vs sx5_)],Fx5_] (fun v H' Fo=>∃(y0:Sl)(y0_:(List Bool))(y1:Sl)(y1_:(List Int))(sy0_:Sl)(Fy0_:Frag)(sy1_:Sl)(Fy1_:Frag),v=(Value.tuple #[])∧Fo=[bx g1 47 [(vs sy0_)],Fy0_,bx g2 83 [(vs x2)],bx g3 30 (d8 x3),bx g4 87 [(Value.func (.func 38) #[] #[(Value.pointer (some ⟨g1,0,none⟩)),(Value.pointer (some ⟨g2,0,none⟩)),(Value.pointer (some ⟨g3,0,none⟩)),(Value.pointer (some ⟨g4,0,none⟩)),(Value.pointer (some ⟨g5,0,none⟩))])],bx g5 44 [(vs sy1_)],Fy1_]∧RowL 4 1 E5 sy0_ y0_ Fy0_∧RowL 3 1 o3 sy1_ y1_ Fy1_∧K y0 y0_ y1 y1_ H') noQE
def a3q(x0:(List Int))(H:Hp)(K:(List Int)→Hp→Prop):Prop:=
 ∀(sx0:Sl)(Fx0:Frag),RowL 3 1 o3 sx0 x0 Fx0→Ct pG 39 [(vs sx0)] H [Fx0] (fun v H' Fo=>∃(y0:(List Int))(Fy0:Frag),v=(Value.tuple #[])∧Fo=[Fy0]∧RowL 3 1 o3 sx0 y0 Fy0∧K y0 H') noQE
def a1h(x0:d4)(H:Hp)(K:Sl→Int→Hp→Prop):Prop:=
 Ct pG 14 [(Value.agg (d8 x0).toArray)] H [] (fun v H' Fo=>∃(r0:Sl)(r1:Int),v=(Value.tuple #[(vs r0),(vi r1)])∧Fo=[]∧K r0 r1 H') noQE
def a4h(x0:d4)(H:Hp)(K:Sl→Int→Hp→Prop):Prop:=
 Ct pG 13 [(Value.agg (d8 x0).toArray)] H [] (fun v H' Fo=>∃(r0:Sl)(r1:Int),v=(Value.tuple #[(vs r0),(vi r1)])∧Fo=[]∧K r0 r1 H') noQE
def a2B(x0:Sl)(x1:Sl)(H:Hp)(K:Bool→Hp→Prop):Prop:=
 Ct pG 31 [(vs x0),(vs x1)] H [] (fun v H' Fo=>∃(r0:Bool),v=(vB r0)∧Fo=[]∧K r0 H') noQE
def a2C(x0:Sl)(x1:Sl)(H:Hp)(K:Bool→Hp→Prop):Prop:=
 Ct pG 32 [(vs x0),(vs x1)] H [] (fun v H' Fo=>∃(r0:Bool),v=(vB r0)∧Fo=[]∧K r0 H') noQE
def a0v(x0:d4)(x1:d4)(H:Hp)(K:Bool→Hp→Prop):Prop:=
 Ct pG 8 [(Value.agg (d8 x0).toArray),(Value.agg (d8 x1).toArray)] H [] (fun v H' Fo=>∃(r0:Bool),v=(vB r0)∧Fo=[]∧K r0 H') noQE
def a0w(x0:d4)(x1:Int)(H:Hp)(K:Sl→Hp→Prop):Prop:=
 Ct pG 17 [(Value.agg (d8 x0).toArray),(vi x1)] H [] (fun v H' Fo=>∃(r0:Sl),v=(vs r0)∧Fo=[]∧K r0 H') noQE
def a0s(x0:d4)(x1:Int)(H:Hp)(K:Bool→Hp→Prop):Prop:=
 Ct pG 4 [(Value.agg (d8 x0).toArray),(vi x1)] H [] (fun v H' Fo=>∃(r0:Bool),v=(vB r0)∧Fo=[]∧K r0 H') noQE
def a6W(x0:A8)(x1:Int)(H:Hp)(K:Sl→Int→Hp→Prop):Prop:=
 Ct pG 44 [(Value.agg (v8 x0).toArray),(vi x1)] H [] (fun v H' Fo=>∃(r0:Sl)(r1:Int),v=(Value.tuple #[(vs r0),(vi r1)])∧Fo=[]∧K r0 r1 H') noQE
def a8t(x0:A8)(H:Hp)(K:Sl→Int→Hp→Prop):Prop:=
 Ct pG 21 [(Value.agg (v8 x0).toArray)] H [] (fun v H' Fo=>∃(r0:Sl)(r1:Int),v=(Value.tuple #[(vs r0),(vi r1)])∧Fo=[]∧K r0 r1 H') noQE
def a7q(x0:A8)(H:Hp)(K:Sl→Int→Hp→Prop):Prop:=
 Ct pG 22 [(Value.agg (v8 x0).toArray)] H [] (fun v H' Fo=>∃(r0:Sl)(r1:Int),v=(Value.tuple #[(vs r0),(vi r1)])∧Fo=[]∧K r0 r1 H') noQE
def C0(x0:f3)(f:(List c8))(H:Hp)(K:Int→f3→(List c8)→Hp→Prop):Prop:=
 ∀(g0:Nat),∀(a:Sl)(b:Frag),RowL 40 10 f7 a f b→Ct pG 23 [(Value.pointer (some ⟨g0,0,none⟩))] H [bx g0 68 (p7 x0 a),b] (fun v H' Fo=>∃(r0:Int)(y0:f3)(c:(List c8))(d:Sl)(e:Frag),v=(vi r0)∧Fo=[bx g0 68 (p7 y0 d),e]∧RowL 40 10 f7 d c e∧K r0 y0 c H') noQE
def X5(x0:f3)(c:(List c8))(x1:q8)(H:Hp)(K:i6→Bool→Hp→Prop):Prop:=
 ∀(g0:Nat),∀(a:Sl)(b:Frag),RowL 40 10 f7 a c b→Ct pG 96 [(Value.pointer (some ⟨g0,0,none⟩)),(Value.agg (m6 x1).toArray)] H [bx g0 68 (p7 x0 a),b] (fun v H' Fo=>∃(r0:i6)(r1:Bool),v=(Value.tuple #[(Value.agg (j6 r0).toArray),(vB r1)])∧Fo=[bx g0 68 (p7 x0 a),b]∧K r0 r1 H') noQE
def A0(x0:f3)(f:(List c8))(x1:c8)(H:Hp)(K:f3→(List c8)→Hp→Prop):Prop:=
 ∀(g0:Nat),∀(a:Sl)(b:Frag),RowL 40 10 f7 a f b→Ct pG 69 [(Value.pointer (some ⟨g0,0,none⟩)),(Value.agg (f7 x1).toArray)] H [bx g0 68 (p7 x0 a),b] (fun v H' Fo=>∃(y0:f3)(c:(List c8))(d:Sl)(e:Frag),v=(Value.tuple #[])∧Fo=[bx g0 68 (p7 y0 d),e]∧RowL 40 10 f7 d c e∧K y0 c H') noQE
def a5D(x0:Int)(H:Hp)(K:Int→Hp→Prop):Prop:=
 Ct pG 110 [(vi x0)] H [] (fun v H' Fo=>∃(r0:Int),v=(vi r0)∧Fo=[]∧K r0 H') noQE
def J8(x0:Int)(x1:Int)(x2:Int)(H:Hp)(K:c8→Hp→Prop):Prop:=
 Ct pG 67 [(vi x0),(vi x1),(vi x2)] H [] (fun v H' Fo=>∃(r0:c8),v=(Value.agg (f7 r0).toArray)∧Fo=[]∧K r0 H') noQE
def a2D(x0:f3)(f:(List c8))(x1:Int)(H:Hp)(K:Int→f3→(List c8)→Hp→Prop):Prop:=
 ∀(g0:Nat),∀(a:Sl)(b:Frag),RowL 40 10 f7 a f b→Ct pG 111 [(Value.pointer (some ⟨g0,0,none⟩)),(vi x1)] H [bx g0 68 (p7 x0 a),b] (fun v H' Fo=>∃(r0:Int)(y0:f3)(c:(List c8))(d:Sl)(e:Frag),v=(vi r0)∧Fo=[bx g0 68 (p7 y0 d),e]∧RowL 40 10 f7 d c e∧K r0 y0 c H') noQE
def N7(x0:f3)(f:(List c8))(x1:q8)(x2:Int)(x3:Int)(H:Hp)(K:i6→Int→f3→(List c8)→Hp→Prop):Prop:=
 ∀(g0:Nat),∀(a:Sl)(b:Frag),RowL 40 10 f7 a f b→Ct pG 98 [(Value.pointer (some ⟨g0,0,none⟩)),(Value.agg (m6 x1).toArray),(vi x2),(vi x3)] H [bx g0 68 (p7 x0 a),b] (fun v H' Fo=>∃(r0:i6)(r1:Int)(y0:f3)(c:(List c8))(d:Sl)(e:Frag),v=(Value.tuple #[(Value.agg (j6 r0).toArray),(vi r1)])∧Fo=[bx g0 68 (p7 y0 d),e]∧RowL 40 10 f7 d c e∧K r0 r1 y0 c H') noQE
def a1i(x0:f3)(c:(List c8))(x1:i6)(x2:Int)(H:Hp)(K:Int→Hp→Prop):Prop:=
 ∀(g0:Nat),∀(a:Sl)(b:Frag),RowL 40 10 f7 a c b→Ct pG 99 [(Value.pointer (some ⟨g0,0,none⟩)),(Value.agg (j6 x1).toArray),(vi x2)] H [bx g0 68 (p7 x0 a),b] (fun v H' Fo=>∃(r0:Int),v=(vi r0)∧Fo=[bx g0 68 (p7 x0 a),b]∧K r0 H') noQE
def S2(x0:f3)(f:(List c8))(x1:Sl)(x2:Int)(x3:Int)(H:Hp)(K:i6→i6→Int→f3→(List c8)→Hp→Prop):Prop:=
 ∀(g0:Nat),∀(a:Sl)(b:Frag),RowL 40 10 f7 a f b→Ct pG 68 [(Value.pointer (some ⟨g0,0,none⟩)),(vs x1),(vi x2),(vi x3)] H [bx g0 68 (p7 x0 a),b] (fun v H' Fo=>∃(r0:i6)(r1:i6)(r2:Int)(y0:f3)(c:(List c8))(d:Sl)(e:Frag),v=(Value.tuple #[(Value.agg (j6 r0).toArray),(Value.agg (j6 r1).toArray),(vi r2)])∧Fo=[bx g0 68 (p7 y0 d),e]∧RowL 40 10 f7 d c e∧K r0 r1 r2 y0 c H') noQE
def Z6(x0:f3)(f:(List c8))(x1:q8)(x2:Int)(x3:Int)(x4:Int)(x5:Int)(H:Hp)(K:f3→(List c8)→Hp→Prop):Prop:=
 ∀(g0:Nat),∀(a:Sl)(b:Frag),RowL 40 10 f7 a f b→Ct pG 97 [(Value.pointer (some ⟨g0,0,none⟩)),(Value.agg (m6 x1).toArray),(vi x2),(vi x3),(vi x4),(vi x5)] H [bx g0 68 (p7 x0 a),b] (fun v H' Fo=>∃(y0:f3)(c:(List c8))(d:Sl)(e:Frag),v=(Value.tuple #[])∧Fo=[bx g0 68 (p7 y0 d),e]∧RowL 40 10 f7 d c e∧K y0 c H') noQE
def a1j(x0:f3)(f:(List c8))(x1:Int)(x2:q8)(x3:Int)(x4:Int)(H:Hp)(K:f3→(List c8)→Hp→Prop):Prop:=
 ∀(g0:Nat),∀(a:Sl)(b:Frag),RowL 40 10 f7 a f b→Ct pG 66 [(Value.pointer (some ⟨g0,0,none⟩)),(vi x1),(Value.agg (m6 x2).toArray),(vi x3),(vi x4)] H [bx g0 68 (p7 x0 a),b] (fun v H' Fo=>∃(y0:f3)(c:(List c8))(d:Sl)(e:Frag),v=(Value.tuple #[])∧Fo=[bx g0 68 (p7 y0 d),e]∧RowL 40 10 f7 d c e∧K y0 c H') noQE
def O2(x0:f3)(f:(List c8))(x1:Sl)(x2:Int)(H:Hp)(K:Int→f3→(List c8)→Hp→Prop):Prop:=
 ∀(g0:Nat),∀(a:Sl)(b:Frag),RowL 40 10 f7 a f b→Ct pG 70 [(Value.pointer (some ⟨g0,0,none⟩)),(vs x1),(vi x2)] H [bx g0 68 (p7 x0 a),b] (fun v H' Fo=>∃(r0:Int)(y0:f3)(c:(List c8))(d:Sl)(e:Frag),v=(vi r0)∧Fo=[bx g0 68 (p7 y0 d),e]∧RowL 40 10 f7 d c e∧K r0 y0 c H') noQE
def A7(x0:f3)(f:(List c8))(x1:v2)(x2:Int)(x3:Int)(x4:Int)(H:Hp)(K:f3→(List c8)→Hp→Prop):Prop:=
 ∀(g0:Nat),∀(a:Sl)(b:Frag),RowL 40 10 f7 a f b→Ct pG 71 [(Value.pointer (some ⟨g0,0,none⟩)),(Value.agg (o8 x1).toArray),(vi x2),(vi x3),(vi x4)] H [bx g0 68 (p7 x0 a),b] (fun v H' Fo=>∃(y0:f3)(c:(List c8))(d:Sl)(e:Frag),v=(Value.tuple #[])∧Fo=[bx g0 68 (p7 y0 d),e]∧RowL 40 10 f7 d c e∧K y0 c H') noQE
def a2E(x0:f3)(f:(List c8))(x1:u5)(x2:Int)(x3:Int)(H:Hp)(K:f3→(List c8)→Hp→Prop):Prop:=
 ∀(g0:Nat),∀(a:Sl)(b:Frag),RowL 40 10 f7 a f b→Ct pG 45 [(Value.pointer (some ⟨g0,0,none⟩)),(Value.agg (u4 x1).toArray),(vi x2),(vi x3)] H [bx g0 68 (p7 x0 a),b] (fun v H' Fo=>∃(y0:f3)(c:(List c8))(d:Sl)(e:Frag),v=(Value.tuple #[])∧Fo=[bx g0 68 (p7 y0 d),e]∧RowL 40 10 f7 d c e∧K y0 c H') noQE
def L5(x0:f3)(f:(List c8))(x1:Sl)(x2:Int)(x3:Int)(H:Hp)(K:f3→(List c8)→Hp→Prop):Prop:=
 ∀(g0:Nat),∀(a:Sl)(b:Frag),RowL 40 10 f7 a f b→Ct pG 24 [(Value.pointer (some ⟨g0,0,none⟩)),(vs x1),(vi x2),(vi x3)] H [bx g0 68 (p7 x0 a),b] (fun v H' Fo=>∃(y0:f3)(c:(List c8))(d:Sl)(e:Frag),v=(Value.tuple #[])∧Fo=[bx g0 68 (p7 y0 d),e]∧RowL 40 10 f7 d c e∧K y0 c H') noQE
def a7r(x0:j8)(H:Hp)(K:d7→Hp→Prop):Prop:=
 Ct pG 120 [(Value.agg (i5 x0).toArray)] H [] (fun v H' Fo=>∃(r0:d7),v=(D7 r0)∧Fo=[]∧K r0 H') noQE
def E6(x0:Sl)(H:Hp)(K:Sl→Hp→Prop):Prop:=
 Ct pG 119 [(vs x0),(fC 120)] H [] (fun v H' Fo=>∃(r0:Sl),v=(vs r0)∧Fo=[]∧K r0 H') noQE
def a7s(x0:u5)(H:Hp)(K:d7→Hp→Prop):Prop:=
 Ct pG 122 [(Value.agg (u4 x0).toArray)] H [] (fun v H' Fo=>∃(r0:d7),v=(D7 r0)∧Fo=[]∧K r0 H') noQE
def y5(x0:Sl)(H:Hp)(K:Sl→Hp→Prop):Prop:=
 Ct pG 121 [(vs x0),(fC 122)] H [] (fun v H' Fo=>∃(r0:Sl),v=(vs r0)∧Fo=[]∧K r0 H') noQE
def O3(x1:Int)(H:Hp)(K:(List d7)→Hp→Prop):Prop:=
 Ct pG 126 [(nS),(vi x1)] H [] (fun v H' Fo=>∃(r0:(List d7))(sr0:Sl)(Fr0:Frag),v=(vs sr0)∧Fo=[Fr0]∧RowL 182 1 t6 sr0 r0 Fr0∧K r0 H') noQE
def B7(x0:Sl)(H:Hp)(K:Sl→Hp→Prop):Prop:=
 Ct pG 118 [(vs x0)] H [] (fun v H' Fo=>∃(r0:Sl),v=(vs r0)∧Fo=[]∧K r0 H') noQE
def a1k(x0:d7)(H:Hp)(K:ByteArray→Bool→Hp→Prop):Prop:=
 Ct pG 127 [(D7 x0)] H [] (fun v H' Fo=>∃(r0:ByteArray)(r1:Bool),v=(Value.tuple #[(Value.string r0),(vB r1)])∧Fo=[]∧K r0 r1 H') noQE
def J1(x0:Int)(x1:Int)(x2:Int)(H:Hp)(K:Bool→Hp→Prop):Prop:=
 ∀(g2:Nat),Ct pG 138 [(Value.int .i32 x0),(Value.int .i32 x1),(Value.pointer (some ⟨g2,0,none⟩))] H [bx g2 21 [(Value.int .i32 x2)]] (fun v H' Fo=>∃(r0:Bool),v=(vB r0)∧Fo=[bx g2 21 [(Value.int .i32 x2)]]∧K r0 H') noQE
def a3M(x0:Int)(H:Hp)(K:Int→Hp→Prop):Prop:=
 Ct pG 134 [(Value.int .i32 x0)] H [] (fun v H' Fo=>∃(r0:Int),v=(vi r0)∧Fo=[]∧K r0 H') noQE
def a5E(x0:Int)(H:Hp)(K:Bool→Hp→Prop):Prop:=
 Ct pG 133 [(Value.int .i32 x0)] H [] (fun v H' Fo=>∃(r0:Bool),v=(vB r0)∧Fo=[]∧K r0 H') noQE
def a5w(x0:ByteArray)(H:Hp)(K:Bool→Hp→Prop):Prop:=
 Ct pG 130 [(Value.string x0)] H [] (fun v H' Fo=>∃(r0:Bool),v=(vB r0)∧Fo=[]∧K r0 H') noQE
def Y2(x0:ByteArray)(H:Hp)(K:Int→Hp→Prop):Prop:=
 Ct pG 137 [(Value.string x0)] H [] (fun v H' Fo=>∃(r0:Int),v=(vi r0)∧Fo=[]∧K r0 H') noQE
def a6D(x0:ByteArray)(H:Hp)(K:Bool→Hp→Prop):Prop:=
 Ct pG 131 [(Value.string x0)] H [] (fun v H' Fo=>∃(r0:Bool),v=(vB r0)∧Fo=[]∧K r0 H') noQE
def a6E(x0:ByteArray)(H:Hp)(K:Bool→Hp→Prop):Prop:=
 Ct pG 132 [(Value.string x0)] H [] (fun v H' Fo=>∃(r0:Bool),v=(vB r0)∧Fo=[]∧K r0 H') noQE
def a4r(x0:ByteArray)(H:Hp)(K:Bool→Hp→Prop):Prop:=
 Ct pG 128 [(Value.string x0)] H [] (fun v H' Fo=>∃(r0:Bool),v=(vB r0)∧Fo=[]∧K r0 H') noQE
def a0E(x0:(List ByteArray))(x1:ByteArray)(H:Hp)(K:Int→Hp→Prop):Prop:=
 ∀(sx0:Sl)(Fx0:Frag),RowL 9 1 y9 sx0 x0 Fx0→Ct pG 135 [(vs sx0),(Value.string x1)] H [Fx0] (fun v H' Fo=>∃(r0:Int),v=(vi r0)∧Fo=[Fx0]∧K r0 H') noQE
def P5(x0:(List ByteArray))(x1:ByteArray)(H:Hp)(K:Bool→Hp→Prop):Prop:=
 ∀(sx0:Sl)(Fx0:Frag),RowL 9 1 y9 sx0 x0 Fx0→Ct pG 129 [(vs sx0),(Value.string x1)] H [Fx0] (fun v H' Fo=>∃(r0:Bool),v=(vB r0)∧Fo=[Fx0]∧K r0 H') noQE
def a1X(x0:m1)(f:(List ByteArray))(x1:d7)(x2:Int)(H:Hp)(K:Bool→m1→(List ByteArray)→Hp→Prop):Prop:=
 ∀(g0:Nat),∀(a:Sl)(b:Frag),RowL 9 1 y9 a f b→Ct pG 125 [(Value.pointer (some ⟨g0,0,none⟩)),(D7 x1),(vi x2)] H [bx g0 169 (a0D x0 a),b] (fun v H' Fo=>∃(r0:Bool)(y0:m1)(c:(List ByteArray))(d:Sl)(e:Frag),v=(vB r0)∧Fo=[bx g0 169 (a0D y0 d),e]∧RowL 9 1 y9 d c e∧K r0 y0 c H') noQE
def W7(x0:Sl)(x1:Int)(x2:m1)(f:(List ByteArray))(H:Hp)(K:Bool→m1→(List ByteArray)→Hp→Prop):Prop:=
 ∀(g2 g2b g3:Nat),∀(a:Sl)(b:Frag),RowL 9 1 y9 a f b→Ct pG 124 [(vs x0),(vi x1),(Value.pointer (some ⟨g2,0,none⟩)),(Value.pointer (some ⟨g3,0,none⟩))] H [bx g2 170 [(Value.pointer (some ⟨g2b,0,none⟩))],bx g2b 169 (a0D x2 a),b,bx g3 189 [(Value.func (.func 124) #[] #[(Value.pointer (some ⟨g2,0,none⟩)),(Value.pointer (some ⟨g3,0,none⟩))])]] (fun v H' Fo=>∃(r0:Bool)(y0:m1)(c:(List ByteArray))(d:Sl)(e:Frag),v=(vB r0)∧Fo=[bx g2 170 [(Value.pointer (some ⟨g2b,0,none⟩))],bx g2b 169 (a0D y0 d),e,bx g3 189 [(Value.func (.func 124) #[] #[(Value.pointer (some ⟨g2,0,none⟩)),(Value.pointer (some ⟨g3,0,none⟩))])]]∧RowL 9 1 y9 d c e∧K r0 y0 c H') noQE
def a4X(x0:Sl)(H:Hp)(K:m1→Hp→Prop):Prop:=
 Ct pG 117 [(vs x0)] H [] (fun v H' Fo=>∃(r0:m1)(gr0:Nat),v=(Value.pointer (some ⟨gr0,0,none⟩))∧Fo=[bx gr0 169 (b1c r0)]∧K r0 H') noQE
def a6F(x0:A8)(H:Hp)(K:m1→Hp→Prop):Prop:=
 Ct pG 107 [(Value.agg (v8 x0).toArray)] H [] (fun v H' Fo=>∃(r0:m1)(gr0:Nat),v=(Value.pointer (some ⟨gr0,0,none⟩))∧Fo=[bx gr0 169 (b1c r0)]∧K r0 H') noQE
def a5F(x0:A8)(H:Hp)(K:Int→Hp→Prop):Prop:=
 Ct pG 92 [(Value.agg (v8 x0).toArray)] H [] (fun v H' Fo=>∃(r0:Int),v=(vi r0)∧Fo=[]∧K r0 H') noQE
def a6Q(x0:Sl)(H:Hp)(K:(Option Nat)→ByteArray→Int→Hp→Prop):Prop:=
 Ct pG 93 [(vs x0)] H [] (fun v H' Fo=>∃(r0:(Option Nat))(r1:ByteArray)(r2:Int),v=(Value.tuple #[(Value.map r0),(Value.string r1),(vi r2)])∧Fo=[]∧K r0 r1 r2 H') noQE
def Q6(x0:i8)(f:(List f8))(x1:q8)(H:Hp)(K:i8→(List f8)→Hp→Prop):Prop:=
 ∀(g0:Nat),∀(a:Sl)(b:Frag),RowL 158 2 z8 a f b→Ct pG 109 [(Value.pointer (some ⟨g0,0,none⟩)),(Value.agg (m6 x1).toArray)] H [bx g0 155 [(vs a)],b] (fun v H' Fo=>∃(y0:i8)(c:(List f8))(d:Sl)(e:Frag),v=(Value.tuple #[])∧Fo=[bx g0 155 [(vs d)],e]∧RowL 158 2 z8 d c e∧K y0 c H') noQE
def Z7(x0:i8)(f:(List f8))(x1:v2)(H:Hp)(K:i8→(List f8)→Hp→Prop):Prop:=
 ∀(g0:Nat),∀(a:Sl)(b:Frag),RowL 158 2 z8 a f b→Ct pG 108 [(Value.pointer (some ⟨g0,0,none⟩)),(Value.agg (o8 x1).toArray)] H [bx g0 155 [(vs a)],b] (fun v H' Fo=>∃(y0:i8)(c:(List f8))(d:Sl)(e:Frag),v=(Value.tuple #[])∧Fo=[bx g0 155 [(vs d)],e]∧RowL 158 2 z8 d c e∧K y0 c H') noQE
def P4(x0:i8)(f:(List f8))(x1:Sl)(H:Hp)(K:i8→(List f8)→Hp→Prop):Prop:=
 ∀(g0:Nat),∀(a:Sl)(b:Frag),RowL 158 2 z8 a f b→Ct pG 94 [(Value.pointer (some ⟨g0,0,none⟩)),(vs x1)] H [bx g0 155 [(vs a)],b] (fun v H' Fo=>∃(y0:i8)(c:(List f8))(d:Sl)(e:Frag),v=(Value.tuple #[])∧Fo=[bx g0 155 [(vs d)],e]∧RowL 158 2 z8 d c e∧K y0 c H') noQE
def a7H(x0:A8)(H:Hp)(K:ByteArray→Int→Hp→Prop):Prop:=
 Ct pG 61 [(Value.agg (v8 x0).toArray)] H [] (fun v H' Fo=>∃(r0:ByteArray)(r1:Int),v=(Value.tuple #[(Value.string r0),(vi r1)])∧Fo=[]∧K r0 r1 H') noQE
def a8u(x0:j8)(H:Hp)(K:Int→Hp→Prop):Prop:=
 Ct pG 65 [(Value.agg (i5 x0).toArray)] H [] (fun v H' Fo=>∃(r0:Int),v=(vi r0)∧Fo=[]∧K r0 H') noQE
def a6B(x0:T0)(H:Hp)(K:Bool→Hp→Prop):Prop:=
 Ct pG 155 [(Value.agg (i5 x0.Z4).toArray)] H [] (fun v H' Fo=>∃(r0:Bool),v=(vB r0)∧Fo=[]∧K r0 H') noQE
def a5V(x0:T0)(H:Hp)(K:Sl→Hp→Prop):Prop:=
 Ct pG 156 [(Value.agg (i5 x0.Z4).toArray)] H [] (fun v H' Fo=>∃(r0:Sl),v=(vs r0)∧Fo=[]∧K r0 H') noQE
def a3P(x0:O9)(H:Hp)(K:Bool→Hp→Prop):Prop:=
 Ct pG 157 [(Value.agg (u4 x0.g9).toArray)] H [] (fun v H' Fo=>∃(r0:Bool),v=(vB r0)∧Fo=[]∧K r0 H') noQE
def a7t(x0:v2)(H:Hp)(K:d7→Hp→Prop):Prop:=
 Ct pG 160 [(Value.agg (o8 x0).toArray)] H [] (fun v H' Fo=>∃(r0:d7),v=(D7 r0)∧Fo=[]∧K r0 H') noQE
def C2(x0:Sl)(H:Hp)(K:Sl→Hp→Prop):Prop:=
 Ct pG 159 [(vs x0),(fC 160)] H [] (fun v H' Fo=>∃(r0:Sl),v=(vs r0)∧Fo=[]∧K r0 H') noQE
def a7u(x0:q8)(H:Hp)(K:d7→Hp→Prop):Prop:=
 Ct pG 162 [(Value.agg (m6 x0).toArray)] H [] (fun v H' Fo=>∃(r0:d7),v=(D7 r0)∧Fo=[]∧K r0 H') noQE
def y6(x0:Sl)(H:Hp)(K:Sl→Hp→Prop):Prop:=
 Ct pG 161 [(vs x0),(fC 162)] H [] (fun v H' Fo=>∃(r0:Sl),v=(vs r0)∧Fo=[]∧K r0 H') noQE
def a5W(x0:O9)(H:Hp)(K:Sl→Hp→Prop):Prop:=
 Ct pG 158 [(Value.agg (u4 x0.g9).toArray)] H [] (fun v H' Fo=>∃(r0:Sl),v=(vs r0)∧Fo=[]∧K r0 H') noQE
def a3Q(x0:K1)(H:Hp)(K:Bool→Hp→Prop):Prop:=
 Ct pG 163 [(Value.agg (m6 x0.t7).toArray)] H [] (fun v H' Fo=>∃(r0:Bool),v=(vB r0)∧Fo=[]∧K r0 H') noQE
def a5X(x0:K1)(H:Hp)(K:Sl→Hp→Prop):Prop:=
 Ct pG 164 [(Value.agg (m6 x0.t7).toArray)] H [] (fun v H' Fo=>∃(r0:Sl),v=(vs r0)∧Fo=[]∧K r0 H') noQE
def a3R(x0:P0)(H:Hp)(K:Bool→Hp→Prop):Prop:=
 Ct pG 166 [(Value.agg (o8 x0.q9).toArray)] H [] (fun v H' Fo=>∃(r0:Bool),v=(vB r0)∧Fo=[]∧K r0 H') noQE
def a5Y(x0:P0)(H:Hp)(K:Sl→Hp→Prop):Prop:=
 Ct pG 167 [(Value.agg (o8 x0.q9).toArray)] H [] (fun v H' Fo=>∃(r0:Sl),v=(vs r0)∧Fo=[]∧K r0 H') noQE
def a4Y(x:d7)(H:Hp)(K:Bool→Hp→Prop):Prop:=match x with
 | .nil=>False
 | .J3 y=>a6B y H K
 | .E0 y=>a3P y H K
 | .D6 y=>a3Q y H K
 | .K3 y=>a3R y H K
def a4H(x:d7)(H:Hp)(K:Sl→Hp→Prop):Prop:=match x with
 | .nil=>False
 | .J3 y=>a5V y H K
 | .E0 y=>a5W y H K
 | .D6 y=>a5X y H K
 | .K3 y=>a5Y y H K
theorem b1d {E : Pan} {w0 w : World} {ps : Nat → Prop} {H0 H : Hp} {Fr : List Frag} {K : RT} {Kc : Bool → Hp → Prop} {x : d7} (I : Inv w0 ps H0 H Fr w) (h : a4Y x H Kc) (hq : ∀ (r0 : Bool) (H' : Hp) (w' : World), Inv w0 ps H0 H' Fr w' → Hle H H' → (∀ i, i < w.heap.size → ¬ inF [] i → w'.heap[i]? = w.heap[i]?) → Kc r0 H' → K (vB r0) w') : oP E (xInvoke (D7 x) "gnomon/tree.form" []) w K := by
 cases x with
 | nil=>exact h.elim
 | J3 y=>exact a4l (f:=155) (args:=[(Value.agg (i5 y.Z4).toArray)].toArray) (by kernel_rfl) (a3L (Fi:=[]) I h (fun v H' Fo w' I' l hk hq'=>by obtain ⟨r0,rfl,rfl,hK⟩:=hq';exact hq r0 H' w' I' l hk hK) (fun _ _ _ _ _ q=>q.elim))
 | E0 y=>exact a4l (f:=157) (args:=[(Value.agg (u4 y.g9).toArray)].toArray) (by kernel_rfl) (a3L (Fi:=[]) I h (fun v H' Fo w' I' l hk hq'=>by obtain ⟨r0,rfl,rfl,hK⟩:=hq';exact hq r0 H' w' I' l hk hK) (fun _ _ _ _ _ q=>q.elim))
 | D6 y=>exact a4l (f:=163) (args:=[(Value.agg (m6 y.t7).toArray)].toArray) (by kernel_rfl) (a3L (Fi:=[]) I h (fun v H' Fo w' I' l hk hq'=>by obtain ⟨r0,rfl,rfl,hK⟩:=hq';exact hq r0 H' w' I' l hk hK) (fun _ _ _ _ _ q=>q.elim))
 | K3 y=>exact a4l (f:=166) (args:=[(Value.agg (o8 y.q9).toArray)].toArray) (by kernel_rfl) (a3L (Fi:=[]) I h (fun v H' Fo w' I' l hk hq'=>by obtain ⟨r0,rfl,rfl,hK⟩:=hq';exact hq r0 H' w' I' l hk hK) (fun _ _ _ _ _ q=>q.elim))
theorem b0P {E : Pan} {w0 w : World} {ps : Nat → Prop} {H0 H : Hp} {Fr : List Frag} {K : RT} {Kc : Sl → Hp → Prop} {x : d7} (I : Inv w0 ps H0 H Fr w) (h : a4H x H Kc) (hq : ∀ (r0 : Sl) (H' : Hp) (w' : World), Inv w0 ps H0 H' Fr w' → Hle H H' → (∀ i, i < w.heap.size → ¬ inF [] i → w'.heap[i]? = w.heap[i]?) → Kc r0 H' → K (vs r0) w') : oP E (xInvoke (D7 x) "gnomon/tree.parts" []) w K := by
 cases x with
 | nil=>exact h.elim
 | J3 y=>exact a4l (f:=156) (args:=[(Value.agg (i5 y.Z4).toArray)].toArray) (by kernel_rfl) (a3L (Fi:=[]) I h (fun v H' Fo w' I' l hk hq'=>by obtain ⟨r0,rfl,rfl,hK⟩:=hq';exact hq r0 H' w' I' l hk hK) (fun _ _ _ _ _ q=>q.elim))
 | E0 y=>exact a4l (f:=158) (args:=[(Value.agg (u4 y.g9).toArray)].toArray) (by kernel_rfl) (a3L (Fi:=[]) I h (fun v H' Fo w' I' l hk hq'=>by obtain ⟨r0,rfl,rfl,hK⟩:=hq';exact hq r0 H' w' I' l hk hK) (fun _ _ _ _ _ q=>q.elim))
 | D6 y=>exact a4l (f:=164) (args:=[(Value.agg (m6 y.t7).toArray)].toArray) (by kernel_rfl) (a3L (Fi:=[]) I h (fun v H' Fo w' I' l hk hq'=>by obtain ⟨r0,rfl,rfl,hK⟩:=hq';exact hq r0 H' w' I' l hk hK) (fun _ _ _ _ _ q=>q.elim))
 | K3 y=>exact a4l (f:=167) (args:=[(Value.agg (o8 y.q9).toArray)].toArray) (by kernel_rfl) (a3L (Fi:=[]) I h (fun v H' Fo w' I' l hk hq'=>by obtain ⟨r0,rfl,rfl,hK⟩:=hq';exact hq r0 H' w' I' l hk hK) (fun _ _ _ _ _ q=>q.elim))
end Go.Proofs.YtaokfhdinhimfaaGreatDoor
