/- Contracts of the program's functions; printed by lift.py off the code. -/
import Derived.Test.YtaokfhdinhimfaaGreatDooryLU1
import Derived.Test.YtaokfhdinhimfaaGreatDooryLG1a
import Derived.Test.YtaokfhdinhimfaaGreatDooryLG1b
import Derived.Test.YtaokfhdinhimfaaGreatDooryLG1c
import Derived.Test.YtaokfhdinhimfaaGreatDooryLG1d
namespace Go.Proofs.YtaokfhdinhimfaaGreatDoor
open Go.RowKit
set_option maxRecDepth 100000
set_option maxHeartbeats 2000000
def a6i(x0:m6)(H:Hp)(K:Bool→Hp→Prop):Prop:=
 Ct pG 3 [(Value.agg (m5 x0).toArray)] H [] (fun v H' Fo=>∃(r0:Bool),v=(vB r0)∧Fo=[]∧K r0 H') noQE
def a7p(x0:m6)(H:Hp)(K:m3→Int→Hp→Prop):Prop:=
 Ct pG 6 [(Value.agg (m5 x0).toArray)] H [] (fun v H' Fo=>∃(r0:m3)(r1:Int),v=(Value.tuple #[(Value.agg (z6 r0).toArray),(vi r1)])∧Fo=[]∧K r0 r1 H') noQE
def a7h(H:Hp)(K:Bool→Hp→Prop):Prop:=
 Ct pG 5 [] H [] (fun v H' Fo=>∃(r0:Bool),v=(vB r0)∧Fo=[]∧K r0 H') noQE
def a5G(x0:Int)(H:Hp)(K:Int→Hp→Prop):Prop:=
 Ct pG 52 [(vi x0)] H [] (fun v H' Fo=>∃(r0:Int),v=(vi r0)∧Fo=[]∧K r0 H') noQE
def a2g(H:Hp)(K:m4→Hp→Prop):Prop:=
 Ct pG 91 [] H [] (fun v H' Fo=>∃(r0:m4),v=(Value.agg (m7 r0).toArray)∧Fo=[]∧K r0 H') noQE
def a8r(x0:Int)(H:Hp)(K:Int→Hp→Prop):Prop:=
 Ct pG 59 [(vi x0)] H [] (fun v H' Fo=>∃(r0:Int),v=(vi r0)∧Fo=[]∧K r0 H') noQE
def a2h(H:Hp)(K:m4→Hp→Prop):Prop:=
 Ct pG 58 [] H [] (fun v H' Fo=>∃(r0:m4),v=(Value.agg (m7 r0).toArray)∧Fo=[]∧K r0 H') noQE
def a4q(x0:Sl)(x1:Sl)(H:Hp)(K:Bool→Hp→Prop):Prop:=
 Ct pG 31 [(vs x0),(vs x1)] H [] (fun v H' Fo=>∃(r0:Bool),v=(vB r0)∧Fo=[]∧K r0 H') noQE
def a4r(x0:Sl)(x1:Sl)(H:Hp)(K:Bool→Hp→Prop):Prop:=
 Ct pG 32 [(vs x0),(vs x1)] H [] (fun v H' Fo=>∃(r0:Bool),v=(vB r0)∧Fo=[]∧K r0 H') noQE
def a7T(x0:m3)(x1:m3)(H:Hp)(K:Bool→Hp→Prop):Prop:=
 Ct pG 8 [(Value.agg (z6 x0).toArray),(Value.agg (z6 x1).toArray)] H [] (fun v H' Fo=>∃(r0:Bool),v=(vB r0)∧Fo=[]∧K r0 H') noQE
def C5(x0:f8)(x1:Int)(H:Hp)(K:Int→Hp→Prop):Prop:=
 Ct pG 84 [(Value.agg (d7 x0).toArray),(vi x1)] H [] (fun v H' Fo=>∃(r0:Int),v=(vi r0)∧Fo=[]∧K r0 H') noQE
def a0i(x0:f8)(x1:Int)(H:Hp)(K:Int→Hp→Prop):Prop:=
 Ct pG 88 [(Value.agg (d7 x0).toArray),(vi x1)] H [] (fun v H' Fo=>∃(r0:Int),v=(vi r0)∧Fo=[]∧K r0 H') noQE
def A6(x0:f8)(x1:Int)(H:Hp)(K:Int→Hp→Prop):Prop:=
 Ct pG 89 [(Value.agg (d7 x0).toArray),(vi x1)] H [] (fun v H' Fo=>∃(r0:Int),v=(vi r0)∧Fo=[]∧K r0 H') noQE
def a0j(x0:j8)(H:Hp)(K:Int→Hp→Prop):Prop:=
 Ct pG 90 [(Value.agg (f7 x0).toArray)] H [] (fun v H' Fo=>∃(r0:Int),v=(vi r0)∧Fo=[]∧K r0 H') noQE
def S4(x0:Sl)(H:Hp)(K:Int→Hp→Prop):Prop:=
 Ct pG 50 [(vs x0)] H [] (fun v H' Fo=>∃(r0:Int),v=(vi r0)∧Fo=[]∧K r0 H') noQE
def a7i(x0:m6)(H:Hp)(K:Int→Hp→Prop):Prop:=
 Ct pG 30 [(Value.agg (m5 x0).toArray)] H [] (fun v H' Fo=>∃(r0:Int),v=(vi r0)∧Fo=[]∧K r0 H') noQE
def a2i(x0:Sl)(x1:ByteArray)(H:Hp)(K:Int→Hp→Prop):Prop:=
 Ct pG 47 [(vs x0),(Value.string x1)] H [] (fun v H' Fo=>∃(r0:Int),v=(vi r0)∧Fo=[]∧K r0 H') noQE
def U9(x0:(List d8))(x1:f8)(H:Hp)(K:(List d8)→Hp→Prop):Prop:=
 ∀(sx0:Sl)(Fx0:Frag),RowL 105 2 p9 sx0 x0 Fx0→Ct pG 106 [(vs sx0),(Value.agg (d7 x1).toArray)] H [Fx0] (fun v H' Fo=>∃(r0:(List d8))(sr0:Sl)(Fr0:Frag),v=(vs sr0)∧Fo=[Fr0]∧RowL 105 2 p9 sr0 r0 Fr0∧K r0 H') noQE
def a0F(x0:(List d8))(x1:j8)(H:Hp)(K:(List d8)→Hp→Prop):Prop:=
 ∀(sx0:Sl)(Fx0:Frag),RowL 105 2 p9 sx0 x0 Fx0→Ct pG 105 [(vs sx0),(Value.agg (f7 x1).toArray)] H [Fx0] (fun v H' Fo=>∃(r0:(List d8))(sr0:Sl)(Fr0:Frag),v=(vs sr0)∧Fo=[Fr0]∧RowL 105 2 p9 sr0 r0 Fr0∧K r0 H') noQE
def V0(x0:(List d8))(x1:Sl)(H:Hp)(K:(List d8)→Hp→Prop):Prop:=
 ∀(sx0:Sl)(Fx0:Frag),RowL 105 2 p9 sx0 x0 Fx0→Ct pG 76 [(vs sx0),(vs x1)] H [Fx0] (fun v H' Fo=>∃(r0:(List d8))(sr0:Sl)(Fr0:Frag),v=(vs sr0)∧Fo=[Fr0]∧RowL 105 2 p9 sr0 r0 Fr0∧K r0 H') noQE
def a5i(x0:m6)(H:Hp)(K:Sl→Hp→Prop):Prop:=
 Ct pG 48 [(Value.agg (m5 x0).toArray)] H [] (fun v H' Fo=>∃(r0:Sl),v=(vs r0)∧Fo=[]∧K r0 H') noQE
def a2D(x0:d3)(H:Hp)(K:Int→Hp→Prop):Prop:=
 Ct pG 75 [(Value.agg (o5 x0).toArray)] H [] (fun v H' Fo=>∃(r0:Int),v=(vi r0)∧Fo=[]∧K r0 H') noQE
def a5j(x0:ByteArray)(x1:Int)(H:Hp)(K:Int→Int→Bool→Hp→Prop):Prop:=
 Ct pG 115 [(Value.string x0),(vi x1)] H [] (fun v H' Fo=>∃(r0:Int)(r1:Int)(r2:Bool),v=(Value.tuple #[(vi r0),(vi r1),(vB r2)])∧Fo=[]∧K r0 r1 r2 H') noQE
def K6(x0:Int)(x1:Int)(x2:Int)(H:Hp)(K:Bool→Hp→Prop):Prop:=
 Ct pG 123 [(vi x0),(vi x1),(vi x2)] H [] (fun v H' Fo=>∃(r0:Bool),v=(vB r0)∧Fo=[]∧K r0 H') noQE
def a4s(x0:Int)(H:Hp)(K:Int→Hp→Prop):Prop:=
 Ct pG 116 [(vi x0)] H [] (fun v H' Fo=>∃(r0:Int),v=(vi r0)∧Fo=[]∧K r0 H') noQE
def a5k(x0:ByteArray)(H:Hp)(K:Bool→Hp→Prop):Prop:=
 Ct pG 114 [(Value.string x0)] H [] (fun v H' Fo=>∃(r0:Bool),v=(vB r0)∧Fo=[]∧K r0 H') noQE
def a2j(x0:ByteArray)(H:Hp)(K:Bool→Hp→Prop):Prop:=
 Ct pG 102 [(Value.string x0)] H [] (fun v H' Fo=>∃(r0:Bool),v=(vB r0)∧Fo=[]∧K r0 H') noQE
def T2(x0:d3)(x1:ByteArray)(x2:Bool)(H:Hp)(K:d3→Hp→Prop):Prop:=
 ∀(g0:Nat),Ct pG 73 [(Value.pointer (some ⟨g0,0,none⟩)),(Value.string x1),(vB x2)] H [bx g0 136 (o5 x0)] (fun v H' Fo=>∃(y0:d3),v=(Value.tuple #[])∧Fo=[bx g0 136 (o5 y0)]∧K y0 H') noQE
def T3(x0:d3)(x1:f8)(H:Hp)(K:d3→Hp→Prop):Prop:=
 ∀(g0:Nat),Ct pG 104 [(Value.pointer (some ⟨g0,0,none⟩)),(Value.agg (d7 x1).toArray)] H [bx g0 136 (o5 x0)] (fun v H' Fo=>∃(y0:d3),v=(Value.tuple #[])∧Fo=[bx g0 136 (o5 y0)]∧K y0 H') noQE
def a0k(x0:d3)(x1:j8)(H:Hp)(K:d3→Hp→Prop):Prop:=
 ∀(g0:Nat),Ct pG 103 [(Value.pointer (some ⟨g0,0,none⟩)),(Value.agg (f7 x1).toArray)] H [bx g0 136 (o5 x0)] (fun v H' Fo=>∃(y0:d3),v=(Value.tuple #[])∧Fo=[bx g0 136 (o5 y0)]∧K y0 H') noQE
def T4(x0:d3)(x1:i8)(H:Hp)(K:d3→Hp→Prop):Prop:=
 ∀(g0:Nat),Ct pG 74 [(Value.pointer (some ⟨g0,0,none⟩)),(Value.agg (g7 x1).toArray)] H [bx g0 136 (o5 x0)] (fun v H' Fo=>∃(y0:d3),v=(Value.tuple #[])∧Fo=[bx g0 136 (o5 y0)]∧K y0 H') noQE
def P0(x0:d4)(x1:Int)(H:Hp)(K:Bool→d4→Hp→Prop):Prop:=
 ∀(g0:Nat),Ct pG 100 [(Value.pointer (some ⟨g0,0,none⟩)),(vi x1)] H [bx g0 133 (o7 x0)] (fun v H' Fo=>∃(r0:Bool)(y0:d4),v=(vB r0)∧Fo=[bx g0 133 (o7 y0)]∧K r0 y0 H') noQE
def T5(x0:d4)(x1:f8)(x2:Int)(H:Hp)(K:d4→Hp→Prop):Prop:=
 ∀(g0:Nat),Ct pG 113 [(Value.pointer (some ⟨g0,0,none⟩)),(Value.agg (d7 x1).toArray),(vi x2)] H [bx g0 133 (o7 x0)] (fun v H' Fo=>∃(y0:d4),v=(Value.tuple #[])∧Fo=[bx g0 133 (o7 y0)]∧K y0 H') noQE
def a0l(x0:d4)(x1:j8)(x2:Int)(H:Hp)(K:d4→Hp→Prop):Prop:=
 ∀(g0:Nat),Ct pG 112 [(Value.pointer (some ⟨g0,0,none⟩)),(Value.agg (f7 x1).toArray),(vi x2)] H [bx g0 133 (o7 x0)] (fun v H' Fo=>∃(y0:d4),v=(Value.tuple #[])∧Fo=[bx g0 133 (o7 y0)]∧K y0 H') noQE
def T6(x0:d4)(x1:i8)(x2:Int)(H:Hp)(K:d4→Hp→Prop):Prop:=
 ∀(g0:Nat),Ct pG 101 [(Value.pointer (some ⟨g0,0,none⟩)),(Value.agg (g7 x1).toArray),(vi x2)] H [bx g0 133 (o7 x0)] (fun v H' Fo=>∃(y0:d4),v=(Value.tuple #[])∧Fo=[bx g0 133 (o7 y0)]∧K y0 H') noQE
def a3R(x0:m6)(H:Hp)(K:d4→Hp→Prop):Prop:=
 Ct pG 72 [(Value.agg (m5 x0).toArray)] H [] (fun v H' Fo=>∃(r0:d4),v=(Value.agg (o7 r0).toArray)∧Fo=[]∧K r0 H') noQE
def a4t(x0:m6)(H:Hp)(K:Int→Hp→Prop):Prop:=
 Ct pG 46 [(Value.agg (m5 x0).toArray)] H [] (fun v H' Fo=>∃(r0:Int),v=(vi r0)∧Fo=[]∧K r0 H') noQE
def a4u(x0:m6)(H:Hp)(K:ByteArray→Int→Hp→Prop):Prop:=
 Ct pG 25 [(Value.agg (m5 x0).toArray)] H [] (fun v H' Fo=>∃(r0:ByteArray)(r1:Int),v=(Value.tuple #[(Value.string r0),(vi r1)])∧Fo=[]∧K r0 r1 H') noQE
def a5l(x0:m6)(H:Hp)(K:Sl→Hp→Prop):Prop:=
 Ct pG 26 [(Value.agg (m5 x0).toArray)] H [] (fun v H' Fo=>∃(r0:Sl),v=(vs r0)∧Fo=[]∧K r0 H') noQE
def a3S(x0:m6)(H:Hp)(K:Sl→Hp→Prop):Prop:=
 Ct pG 27 [(Value.agg (m5 x0).toArray)] H [] (fun v H' Fo=>∃(r0:Sl),v=(vs r0)∧Fo=[]∧K r0 H') noQE
def A4(x0:d6)(f:(List c7))(H:Hp)(K:Int→d6→(List c7)→Hp→Prop):Prop:=
 ∀(g0:Nat),∀(a:Sl)(b:Frag),RowL 40 10 i6 a f b→Ct pG 28 [(Value.pointer (some ⟨g0,0,none⟩))] H [bx g0 77 (o3 x0 a),b] (fun v H' Fo=>∃(r0:Int)(y0:d6)(c:(List c7))(d:Sl)(e:Frag),v=(vi r0)∧Fo=[bx g0 77 (o3 y0 d),e]∧RowL 40 10 i6 d c e∧K r0 y0 c H') noQE
def D1(x0:Int)(x1:Int)(x2:Int)(H:Hp)(K:c7→Hp→Prop):Prop:=
 Ct pG 78 [(vi x0),(vi x1),(vi x2)] H [] (fun v H' Fo=>∃(r0:c7),v=(Value.agg (i6 r0).toArray)∧Fo=[]∧K r0 H') noQE
def z2(x0:d6)(f:(List c7))(x1:c7)(H:Hp)(K:d6→(List c7)→Hp→Prop):Prop:=
 ∀(g0:Nat),∀(a:Sl)(b:Frag),RowL 40 10 i6 a f b→Ct pG 77 [(Value.pointer (some ⟨g0,0,none⟩)),(Value.agg (i6 x1).toArray)] H [bx g0 77 (o3 x0 a),b] (fun v H' Fo=>∃(y0:d6)(c:(List c7))(d:Sl)(e:Frag),v=(Value.tuple #[])∧Fo=[bx g0 77 (o3 y0 d),e]∧RowL 40 10 i6 d c e∧K y0 c H') noQE
def O3(x0:d6)(c:(List c7))(x1:ByteArray)(H:Hp)(K:Int→Hp→Prop):Prop:=
 ∀(g0:Nat),∀(a:Sl)(b:Frag),RowL 40 10 i6 a c b→Ct pG 81 [(Value.pointer (some ⟨g0,0,none⟩)),(Value.string x1)] H [bx g0 77 (o3 x0 a),b] (fun v H' Fo=>∃(r0:Int),v=(vi r0)∧Fo=[bx g0 77 (o3 x0 a),b]∧K r0 H') noQE
def X0(x0:d6)(c:(List c7))(x1:f8)(H:Hp)(K:m4→Bool→Hp→Prop):Prop:=
 ∀(g0:Nat),∀(a:Sl)(b:Frag),RowL 40 10 i6 a c b→Ct pG 79 [(Value.pointer (some ⟨g0,0,none⟩)),(Value.agg (d7 x1).toArray)] H [bx g0 77 (o3 x0 a),b] (fun v H' Fo=>∃(r0:m4)(r1:Bool),v=(Value.tuple #[(Value.agg (m7 r0).toArray),(vB r1)])∧Fo=[bx g0 77 (o3 x0 a),b]∧K r0 r1 H') noQE
def R4(x0:d6)(c:(List c7))(x1:ByteArray)(H:Hp)(K:Int→Hp→Prop):Prop:=
 ∀(g0:Nat),∀(a:Sl)(b:Frag),RowL 40 10 i6 a c b→Ct pG 82 [(Value.pointer (some ⟨g0,0,none⟩)),(Value.string x1)] H [bx g0 77 (o3 x0 a),b] (fun v H' Fo=>∃(r0:Int),v=(vi r0)∧Fo=[bx g0 77 (o3 x0 a),b]∧K r0 H') noQE
def v8(x0:d6)(f:(List c7))(x1:f8)(x2:Int)(x3:Int)(H:Hp)(K:m4→Int→d6→(List c7)→Hp→Prop):Prop:=
 ∀(g0:Nat),∀(a:Sl)(b:Frag),RowL 40 10 i6 a f b→Ct pG 83 [(Value.pointer (some ⟨g0,0,none⟩)),(Value.agg (d7 x1).toArray),(vi x2),(vi x3)] H [bx g0 77 (o3 x0 a),b] (fun v H' Fo=>∃(r0:m4)(r1:Int)(y0:d6)(c:(List c7))(d:Sl)(e:Frag),v=(Value.tuple #[(Value.agg (m7 r0).toArray),(vi r1)])∧Fo=[bx g0 77 (o3 y0 d),e]∧RowL 40 10 i6 d c e∧K r0 r1 y0 c H') noQE
def a0e(x0:d6)(f:(List c7))(x1:f8)(x2:Int)(x3:Int)(x4:Int)(x5:Int)(H:Hp)(K:d6→(List c7)→Hp→Prop):Prop:=
 ∀(g0:Nat),∀(a:Sl)(b:Frag),RowL 40 10 i6 a f b→Ct pG 80 [(Value.pointer (some ⟨g0,0,none⟩)),(Value.agg (d7 x1).toArray),(vi x2),(vi x3),(vi x4),(vi x5)] H [bx g0 77 (o3 x0 a),b] (fun v H' Fo=>∃(y0:d6)(c:(List c7))(d:Sl)(e:Frag),v=(Value.tuple #[])∧Fo=[bx g0 77 (o3 y0 d),e]∧RowL 40 10 i6 d c e∧K y0 c H') noQE
def Q5(x0:d6)(f:(List c7))(x1:Sl)(x2:Int)(H:Hp)(K:Int→d6→(List c7)→Hp→Prop):Prop:=
 ∀(g0:Nat),∀(a:Sl)(b:Frag),RowL 40 10 i6 a f b→Ct pG 85 [(Value.pointer (some ⟨g0,0,none⟩)),(vs x1),(vi x2)] H [bx g0 77 (o3 x0 a),b] (fun v H' Fo=>∃(r0:Int)(y0:d6)(c:(List c7))(d:Sl)(e:Frag),v=(vi r0)∧Fo=[bx g0 77 (o3 y0 d),e]∧RowL 40 10 i6 d c e∧K r0 y0 c H') noQE
def A7(x0:d6)(f:(List c7))(x1:j8)(x2:Int)(x3:Int)(x4:Int)(H:Hp)(K:d6→(List c7)→Hp→Prop):Prop:=
 ∀(g0:Nat),∀(a:Sl)(b:Frag),RowL 40 10 i6 a f b→Ct pG 86 [(Value.pointer (some ⟨g0,0,none⟩)),(Value.agg (f7 x1).toArray),(vi x2),(vi x3),(vi x4)] H [bx g0 77 (o3 x0 a),b] (fun v H' Fo=>∃(y0:d6)(c:(List c7))(d:Sl)(e:Frag),v=(Value.tuple #[])∧Fo=[bx g0 77 (o3 y0 d),e]∧RowL 40 10 i6 d c e∧K y0 c H') noQE
def R5(x0:d6)(f:(List c7))(x1:Sl)(x2:Int)(x3:Int)(H:Hp)(K:d6→(List c7)→Hp→Prop):Prop:=
 ∀(g0:Nat),∀(a:Sl)(b:Frag),RowL 40 10 i6 a f b→Ct pG 87 [(Value.pointer (some ⟨g0,0,none⟩)),(vs x1),(vi x2),(vi x3)] H [bx g0 77 (o3 x0 a),b] (fun v H' Fo=>∃(y0:d6)(c:(List c7))(d:Sl)(e:Frag),v=(Value.tuple #[])∧Fo=[bx g0 77 (o3 y0 d),e]∧RowL 40 10 i6 d c e∧K y0 c H') noQE
def a2k(x0:d6)(f:(List c7))(x1:i8)(x2:Int)(x3:Int)(H:Hp)(K:d6→(List c7)→Hp→Prop):Prop:=
 ∀(g0:Nat),∀(a:Sl)(b:Frag),RowL 40 10 i6 a f b→Ct pG 49 [(Value.pointer (some ⟨g0,0,none⟩)),(Value.agg (g7 x1).toArray),(vi x2),(vi x3)] H [bx g0 77 (o3 x0 a),b] (fun v H' Fo=>∃(y0:d6)(c:(List c7))(d:Sl)(e:Frag),v=(Value.tuple #[])∧Fo=[bx g0 77 (o3 y0 d),e]∧RowL 40 10 i6 d c e∧K y0 c H') noQE
def Y3(x0:d6)(f:(List c7))(x1:Sl)(x2:Int)(x3:Int)(H:Hp)(K:d6→(List c7)→Hp→Prop):Prop:=
 ∀(g0:Nat),∀(a:Sl)(b:Frag),RowL 40 10 i6 a f b→Ct pG 29 [(Value.pointer (some ⟨g0,0,none⟩)),(vs x1),(vi x2),(vi x3)] H [bx g0 77 (o3 x0 a),b] (fun v H' Fo=>∃(y0:d6)(c:(List c7))(d:Sl)(e:Frag),v=(Value.tuple #[])∧Fo=[bx g0 77 (o3 y0 d),e]∧RowL 40 10 i6 d c e∧K y0 c H') noQE
def a4v(x0:m6)(H:Hp)(K:m3→Int→Hp→Prop):Prop:=
 Ct pG 7 [(Value.agg (m5 x0).toArray)] H [] (fun v H' Fo=>∃(r0:m3)(r1:Int),v=(Value.tuple #[(Value.agg (z6 r0).toArray),(vi r1)])∧Fo=[]∧K r0 r1 H') noQE
def a8s(x0:m6)(x1:Int)(H:Hp)(K:Sl→Int→Hp→Prop):Prop:=
 Ct pG 44 [(Value.agg (m5 x0).toArray),(vi x1)] H [] (fun v H' Fo=>∃(r0:Sl)(r1:Int),v=(Value.tuple #[(vs r0),(vi r1)])∧Fo=[]∧K r0 r1 H') noQE
def b0b(x0:m6)(H:Hp)(K:Sl→Int→Hp→Prop):Prop:=
 Ct pG 21 [(Value.agg (m5 x0).toArray)] H [] (fun v H' Fo=>∃(r0:Sl)(r1:Int),v=(Value.tuple #[(vs r0),(vi r1)])∧Fo=[]∧K r0 r1 H') noQE
def a8P(x0:m6)(H:Hp)(K:Sl→Int→Hp→Prop):Prop:=
 Ct pG 22 [(Value.agg (m5 x0).toArray)] H [] (fun v H' Fo=>∃(r0:Sl)(r1:Int),v=(Value.tuple #[(vs r0),(vi r1)])∧Fo=[]∧K r0 r1 H') noQE
def E7(x0:f9)(f:(List c7))(H:Hp)(K:Int→f9→(List c7)→Hp→Prop):Prop:=
 ∀(g0:Nat),∀(a:Sl)(b:Frag),RowL 40 10 i6 a f b→Ct pG 23 [(Value.pointer (some ⟨g0,0,none⟩))] H [bx g0 68 (r5 x0 a),b] (fun v H' Fo=>∃(r0:Int)(y0:f9)(c:(List c7))(d:Sl)(e:Frag),v=(vi r0)∧Fo=[bx g0 68 (r5 y0 d),e]∧RowL 40 10 i6 d c e∧K r0 y0 c H') noQE
def a1o(x0:f9)(c:(List c7))(x1:f8)(H:Hp)(K:m4→Bool→Hp→Prop):Prop:=
 ∀(g0:Nat),∀(a:Sl)(b:Frag),RowL 40 10 i6 a c b→Ct pG 96 [(Value.pointer (some ⟨g0,0,none⟩)),(Value.agg (d7 x1).toArray)] H [bx g0 68 (r5 x0 a),b] (fun v H' Fo=>∃(r0:m4)(r1:Bool),v=(Value.tuple #[(Value.agg (m7 r0).toArray),(vB r1)])∧Fo=[bx g0 68 (r5 x0 a),b]∧K r0 r1 H') noQE
def B5(x0:f9)(f:(List c7))(x1:c7)(H:Hp)(K:f9→(List c7)→Hp→Prop):Prop:=
 ∀(g0:Nat),∀(a:Sl)(b:Frag),RowL 40 10 i6 a f b→Ct pG 69 [(Value.pointer (some ⟨g0,0,none⟩)),(Value.agg (i6 x1).toArray)] H [bx g0 68 (r5 x0 a),b] (fun v H' Fo=>∃(y0:f9)(c:(List c7))(d:Sl)(e:Frag),v=(Value.tuple #[])∧Fo=[bx g0 68 (r5 y0 d),e]∧RowL 40 10 i6 d c e∧K y0 c H') noQE
def a6Z(x0:Int)(H:Hp)(K:Int→Hp→Prop):Prop:=
 Ct pG 110 [(vi x0)] H [] (fun v H' Fo=>∃(r0:Int),v=(vi r0)∧Fo=[]∧K r0 H') noQE
def O9(x0:Int)(x1:Int)(x2:Int)(H:Hp)(K:c7→Hp→Prop):Prop:=
 Ct pG 67 [(vi x0),(vi x1),(vi x2)] H [] (fun v H' Fo=>∃(r0:c7),v=(Value.agg (i6 r0).toArray)∧Fo=[]∧K r0 H') noQE
def a4w(x0:f9)(f:(List c7))(x1:Int)(H:Hp)(K:Int→f9→(List c7)→Hp→Prop):Prop:=
 ∀(g0:Nat),∀(a:Sl)(b:Frag),RowL 40 10 i6 a f b→Ct pG 111 [(Value.pointer (some ⟨g0,0,none⟩)),(vi x1)] H [bx g0 68 (r5 x0 a),b] (fun v H' Fo=>∃(r0:Int)(y0:f9)(c:(List c7))(d:Sl)(e:Frag),v=(vi r0)∧Fo=[bx g0 68 (r5 y0 d),e]∧RowL 40 10 i6 d c e∧K r0 y0 c H') noQE
def V1(x0:f9)(f:(List c7))(x1:f8)(x2:Int)(x3:Int)(H:Hp)(K:m4→Int→f9→(List c7)→Hp→Prop):Prop:=
 ∀(g0:Nat),∀(a:Sl)(b:Frag),RowL 40 10 i6 a f b→Ct pG 98 [(Value.pointer (some ⟨g0,0,none⟩)),(Value.agg (d7 x1).toArray),(vi x2),(vi x3)] H [bx g0 68 (r5 x0 a),b] (fun v H' Fo=>∃(r0:m4)(r1:Int)(y0:f9)(c:(List c7))(d:Sl)(e:Frag),v=(Value.tuple #[(Value.agg (m7 r0).toArray),(vi r1)])∧Fo=[bx g0 68 (r5 y0 d),e]∧RowL 40 10 i6 d c e∧K r0 r1 y0 c H') noQE
def a3y(x0:f9)(c:(List c7))(x1:m4)(x2:Int)(H:Hp)(K:Int→Hp→Prop):Prop:=
 ∀(g0:Nat),∀(a:Sl)(b:Frag),RowL 40 10 i6 a c b→Ct pG 99 [(Value.pointer (some ⟨g0,0,none⟩)),(Value.agg (m7 x1).toArray),(vi x2)] H [bx g0 68 (r5 x0 a),b] (fun v H' Fo=>∃(r0:Int),v=(vi r0)∧Fo=[bx g0 68 (r5 x0 a),b]∧K r0 H') noQE
def a0C(x0:f9)(f:(List c7))(x1:Sl)(x2:Int)(x3:Int)(H:Hp)(K:m4→m4→Int→f9→(List c7)→Hp→Prop):Prop:=
 ∀(g0:Nat),∀(a:Sl)(b:Frag),RowL 40 10 i6 a f b→Ct pG 68 [(Value.pointer (some ⟨g0,0,none⟩)),(vs x1),(vi x2),(vi x3)] H [bx g0 68 (r5 x0 a),b] (fun v H' Fo=>∃(r0:m4)(r1:m4)(r2:Int)(y0:f9)(c:(List c7))(d:Sl)(e:Frag),v=(Value.tuple #[(Value.agg (m7 r0).toArray),(Value.agg (m7 r1).toArray),(vi r2)])∧Fo=[bx g0 68 (r5 y0 d),e]∧RowL 40 10 i6 d c e∧K r0 r1 r2 y0 c H') noQE
def a1K(x0:f9)(f:(List c7))(x1:f8)(x2:Int)(x3:Int)(x4:Int)(x5:Int)(H:Hp)(K:f9→(List c7)→Hp→Prop):Prop:=
 ∀(g0:Nat),∀(a:Sl)(b:Frag),RowL 40 10 i6 a f b→Ct pG 97 [(Value.pointer (some ⟨g0,0,none⟩)),(Value.agg (d7 x1).toArray),(vi x2),(vi x3),(vi x4),(vi x5)] H [bx g0 68 (r5 x0 a),b] (fun v H' Fo=>∃(y0:f9)(c:(List c7))(d:Sl)(e:Frag),v=(Value.tuple #[])∧Fo=[bx g0 68 (r5 y0 d),e]∧RowL 40 10 i6 d c e∧K y0 c H') noQE
def a3z(x0:f9)(f:(List c7))(x1:Int)(x2:f8)(x3:Int)(x4:Int)(H:Hp)(K:f9→(List c7)→Hp→Prop):Prop:=
 ∀(g0:Nat),∀(a:Sl)(b:Frag),RowL 40 10 i6 a f b→Ct pG 66 [(Value.pointer (some ⟨g0,0,none⟩)),(vi x1),(Value.agg (d7 x2).toArray),(vi x3),(vi x4)] H [bx g0 68 (r5 x0 a),b] (fun v H' Fo=>∃(y0:f9)(c:(List c7))(d:Sl)(e:Frag),v=(Value.tuple #[])∧Fo=[bx g0 68 (r5 y0 d),e]∧RowL 40 10 i6 d c e∧K y0 c H') noQE
def W3(x0:f9)(f:(List c7))(x1:Sl)(x2:Int)(H:Hp)(K:Int→f9→(List c7)→Hp→Prop):Prop:=
 ∀(g0:Nat),∀(a:Sl)(b:Frag),RowL 40 10 i6 a f b→Ct pG 70 [(Value.pointer (some ⟨g0,0,none⟩)),(vs x1),(vi x2)] H [bx g0 68 (r5 x0 a),b] (fun v H' Fo=>∃(r0:Int)(y0:f9)(c:(List c7))(d:Sl)(e:Frag),v=(vi r0)∧Fo=[bx g0 68 (r5 y0 d),e]∧RowL 40 10 i6 d c e∧K r0 y0 c H') noQE
def D2(x0:f9)(f:(List c7))(x1:j8)(x2:Int)(x3:Int)(x4:Int)(H:Hp)(K:f9→(List c7)→Hp→Prop):Prop:=
 ∀(g0:Nat),∀(a:Sl)(b:Frag),RowL 40 10 i6 a f b→Ct pG 71 [(Value.pointer (some ⟨g0,0,none⟩)),(Value.agg (f7 x1).toArray),(vi x2),(vi x3),(vi x4)] H [bx g0 68 (r5 x0 a),b] (fun v H' Fo=>∃(y0:f9)(c:(List c7))(d:Sl)(e:Frag),v=(Value.tuple #[])∧Fo=[bx g0 68 (r5 y0 d),e]∧RowL 40 10 i6 d c e∧K y0 c H') noQE
def a4x(x0:f9)(f:(List c7))(x1:i8)(x2:Int)(x3:Int)(H:Hp)(K:f9→(List c7)→Hp→Prop):Prop:=
 ∀(g0:Nat),∀(a:Sl)(b:Frag),RowL 40 10 i6 a f b→Ct pG 45 [(Value.pointer (some ⟨g0,0,none⟩)),(Value.agg (g7 x1).toArray),(vi x2),(vi x3)] H [bx g0 68 (r5 x0 a),b] (fun v H' Fo=>∃(y0:f9)(c:(List c7))(d:Sl)(e:Frag),v=(Value.tuple #[])∧Fo=[bx g0 68 (r5 y0 d),e]∧RowL 40 10 i6 d c e∧K y0 c H') noQE
def R6(x0:f9)(f:(List c7))(x1:Sl)(x2:Int)(x3:Int)(H:Hp)(K:f9→(List c7)→Hp→Prop):Prop:=
 ∀(g0:Nat),∀(a:Sl)(b:Frag),RowL 40 10 i6 a f b→Ct pG 24 [(Value.pointer (some ⟨g0,0,none⟩)),(vs x1),(vi x2),(vi x3)] H [bx g0 68 (r5 x0 a),b] (fun v H' Fo=>∃(y0:f9)(c:(List c7))(d:Sl)(e:Frag),v=(Value.tuple #[])∧Fo=[bx g0 68 (r5 y0 d),e]∧RowL 40 10 i6 d c e∧K y0 c H') noQE
def a8Q(x0:i7)(H:Hp)(K:f5→Hp→Prop):Prop:=
 Ct pG 120 [(Value.agg (i5 x0).toArray)] H [] (fun v H' Fo=>∃(r0:f5),v=(K8 r0)∧Fo=[]∧K r0 H') noQE
def L9(x0:Sl)(H:Hp)(K:Sl→Hp→Prop):Prop:=
 Ct pG 119 [(vs x0),(fC 120)] H [] (fun v H' Fo=>∃(r0:Sl),v=(vs r0)∧Fo=[]∧K r0 H') noQE
def a8R(x0:i8)(H:Hp)(K:f5→Hp→Prop):Prop:=
 Ct pG 122 [(Value.agg (g7 x0).toArray)] H [] (fun v H' Fo=>∃(r0:f5),v=(K8 r0)∧Fo=[]∧K r0 H') noQE
def B1(x0:Sl)(H:Hp)(K:Sl→Hp→Prop):Prop:=
 Ct pG 121 [(vs x0),(fC 122)] H [] (fun v H' Fo=>∃(r0:Sl),v=(vs r0)∧Fo=[]∧K r0 H') noQE
def W4(x1:Int)(H:Hp)(K:(List f5)→Hp→Prop):Prop:=
 Ct pG 126 [(nS),(vi x1)] H [] (fun v H' Fo=>∃(r0:(List f5))(sr0:Sl)(Fr0:Frag),v=(vs sr0)∧Fo=[Fr0]∧RowL 182 1 v7 sr0 r0 Fr0∧K r0 H') noQE
def E3(x0:Sl)(H:Hp)(K:Sl→Hp→Prop):Prop:=
 Ct pG 118 [(vs x0)] H [] (fun v H' Fo=>∃(r0:Sl),v=(vs r0)∧Fo=[]∧K r0 H') noQE
def a3A(x0:f5)(H:Hp)(K:ByteArray→Bool→Hp→Prop):Prop:=
 Ct pG 127 [(K8 x0)] H [] (fun v H' Fo=>∃(r0:ByteArray)(r1:Bool),v=(Value.tuple #[(Value.string r0),(vB r1)])∧Fo=[]∧K r0 r1 H') noQE
def O4(x0:Int)(x1:Int)(x2:Int)(H:Hp)(K:Bool→Hp→Prop):Prop:=
 ∀(g2:Nat),Ct pG 138 [(Value.int .i32 x0),(Value.int .i32 x1),(Value.pointer (some ⟨g2,0,none⟩))] H [bx g2 21 [(Value.int .i32 x2)]] (fun v H' Fo=>∃(r0:Bool),v=(vB r0)∧Fo=[bx g2 21 [(Value.int .i32 x2)]]∧K r0 H') noQE
def a5E(x0:Int)(H:Hp)(K:Int→Hp→Prop):Prop:=
 Ct pG 134 [(Value.int .i32 x0)] H [] (fun v H' Fo=>∃(r0:Int),v=(vi r0)∧Fo=[]∧K r0 H') noQE
def a7a(x0:Int)(H:Hp)(K:Bool→Hp→Prop):Prop:=
 Ct pG 133 [(Value.int .i32 x0)] H [] (fun v H' Fo=>∃(r0:Bool),v=(vB r0)∧Fo=[]∧K r0 H') noQE
def a6T(x0:ByteArray)(H:Hp)(K:Bool→Hp→Prop):Prop:=
 Ct pG 130 [(Value.string x0)] H [] (fun v H' Fo=>∃(r0:Bool),v=(vB r0)∧Fo=[]∧K r0 H') noQE
def a1r(x0:ByteArray)(H:Hp)(K:Int→Hp→Prop):Prop:=
 Ct pG 137 [(Value.string x0)] H [] (fun v H' Fo=>∃(r0:Int),v=(vi r0)∧Fo=[]∧K r0 H') noQE
def a7V(x0:ByteArray)(H:Hp)(K:Bool→Hp→Prop):Prop:=
 Ct pG 131 [(Value.string x0)] H [] (fun v H' Fo=>∃(r0:Bool),v=(vB r0)∧Fo=[]∧K r0 H') noQE
def a7W(x0:ByteArray)(H:Hp)(K:Bool→Hp→Prop):Prop:=
 Ct pG 132 [(Value.string x0)] H [] (fun v H' Fo=>∃(r0:Bool),v=(vB r0)∧Fo=[]∧K r0 H') noQE
def a6j(x0:ByteArray)(H:Hp)(K:Bool→Hp→Prop):Prop:=
 Ct pG 128 [(Value.string x0)] H [] (fun v H' Fo=>∃(r0:Bool),v=(vB r0)∧Fo=[]∧K r0 H') noQE
def a2V(x0:(List ByteArray))(x1:ByteArray)(H:Hp)(K:Int→Hp→Prop):Prop:=
 ∀(sx0:Sl)(Fx0:Frag),RowL 9 1 v2 sx0 x0 Fx0→Ct pG 135 [(vs sx0),(Value.string x1)] H [Fx0] (fun v H' Fo=>∃(r0:Int),v=(vi r0)∧Fo=[Fx0]∧K r0 H') noQE
def Y4(x0:(List ByteArray))(x1:ByteArray)(H:Hp)(K:Bool→Hp→Prop):Prop:=
 ∀(sx0:Sl)(Fx0:Frag),RowL 9 1 v2 sx0 x0 Fx0→Ct pG 129 [(vs sx0),(Value.string x1)] H [Fx0] (fun v H' Fo=>∃(r0:Bool),v=(vB r0)∧Fo=[Fx0]∧K r0 H') noQE
def a3T(x0:o4)(f:(List ByteArray))(x1:f5)(x2:Int)(H:Hp)(K:Bool→o4→(List ByteArray)→Hp→Prop):Prop:=
 ∀(g0:Nat),∀(a:Sl)(b:Frag),RowL 9 1 v2 a f b→Ct pG 125 [(Value.pointer (some ⟨g0,0,none⟩)),(K8 x1),(vi x2)] H [bx g0 169 (a2U x0 a),b] (fun v H' Fo=>∃(r0:Bool)(y0:o4)(c:(List ByteArray))(d:Sl)(e:Frag),v=(vB r0)∧Fo=[bx g0 169 (a2U y0 d),e]∧RowL 9 1 v2 d c e∧K r0 y0 c H') noQE
def a1g(x0:Sl)(x1:Int)(x2:o4)(f:(List ByteArray))(H:Hp)(K:Bool→o4→(List ByteArray)→Hp→Prop):Prop:=
 ∀(g2 g2b g3:Nat),∀(a:Sl)(b:Frag),RowL 9 1 v2 a f b→Ct pG 124 [(vs x0),(vi x1),(Value.pointer (some ⟨g2,0,none⟩)),(Value.pointer (some ⟨g3,0,none⟩))] H [bx g2 170 [(Value.pointer (some ⟨g2b,0,none⟩))],bx g2b 169 (a2U x2 a),b,bx g3 189 [(Value.func (.func 124) #[] #[(Value.pointer (some ⟨g2,0,none⟩)),(Value.pointer (some ⟨g3,0,none⟩))])]] (fun v H' Fo=>∃(r0:Bool)(y0:o4)(c:(List ByteArray))(d:Sl)(e:Frag),v=(vB r0)∧Fo=[bx g2 170 [(Value.pointer (some ⟨g2b,0,none⟩))],bx g2b 169 (a2U y0 d),e,bx g3 189 [(Value.func (.func 124) #[] #[(Value.pointer (some ⟨g2,0,none⟩)),(Value.pointer (some ⟨g3,0,none⟩))])]]∧RowL 9 1 v2 d c e∧K r0 y0 c H') noQE
def a6v(x0:Sl)(H:Hp)(K:o4→Hp→Prop):Prop:=
 Ct pG 117 [(vs x0)] H [] (fun v H' Fo=>∃(r0:o4)(gr0:Nat),v=(Value.pointer (some ⟨gr0,0,none⟩))∧Fo=[bx gr0 169 (b2U r0)]∧K r0 H') noQE
def a7X(x0:m6)(H:Hp)(K:o4→Hp→Prop):Prop:=
 Ct pG 107 [(Value.agg (m5 x0).toArray)] H [] (fun v H' Fo=>∃(r0:o4)(gr0:Nat),v=(Value.pointer (some ⟨gr0,0,none⟩))∧Fo=[bx gr0 169 (b2U r0)]∧K r0 H') noQE
def a7b(x0:m6)(H:Hp)(K:Int→Hp→Prop):Prop:=
 Ct pG 92 [(Value.agg (m5 x0).toArray)] H [] (fun v H' Fo=>∃(r0:Int),v=(vi r0)∧Fo=[]∧K r0 H') noQE
def a8g(x0:Sl)(H:Hp)(K:(Option Nat)→ByteArray→Int→Hp→Prop):Prop:=
 Ct pG 93 [(vs x0)] H [] (fun v H' Fo=>∃(r0:(Option Nat))(r1:ByteArray)(r2:Int),v=(Value.tuple #[(Value.map r0),(Value.string r1),(vi r2)])∧Fo=[]∧K r0 r1 r2 H') noQE
def a0f(x0:m9)(f:(List g9))(x1:f8)(H:Hp)(K:m9→(List g9)→Hp→Prop):Prop:=
 ∀(g0:Nat),∀(a:Sl)(b:Frag),RowL 158 2 B3 a f b→Ct pG 109 [(Value.pointer (some ⟨g0,0,none⟩)),(Value.agg (d7 x1).toArray)] H [bx g0 155 [(vs a)],b] (fun v H' Fo=>∃(y0:m9)(c:(List g9))(d:Sl)(e:Frag),v=(Value.tuple #[])∧Fo=[bx g0 155 [(vs d)],e]∧RowL 158 2 B3 d c e∧K y0 c H') noQE
def a1L(x0:m9)(f:(List g9))(x1:j8)(H:Hp)(K:m9→(List g9)→Hp→Prop):Prop:=
 ∀(g0:Nat),∀(a:Sl)(b:Frag),RowL 158 2 B3 a f b→Ct pG 108 [(Value.pointer (some ⟨g0,0,none⟩)),(Value.agg (f7 x1).toArray)] H [bx g0 155 [(vs a)],b] (fun v H' Fo=>∃(y0:m9)(c:(List g9))(d:Sl)(e:Frag),v=(Value.tuple #[])∧Fo=[bx g0 155 [(vs d)],e]∧RowL 158 2 B3 d c e∧K y0 c H') noQE
def Y2(x0:m9)(f:(List g9))(x1:Sl)(H:Hp)(K:m9→(List g9)→Hp→Prop):Prop:=
 ∀(g0:Nat),∀(a:Sl)(b:Frag),RowL 158 2 B3 a f b→Ct pG 94 [(Value.pointer (some ⟨g0,0,none⟩)),(vs x1)] H [bx g0 155 [(vs a)],b] (fun v H' Fo=>∃(y0:m9)(c:(List g9))(d:Sl)(e:Frag),v=(Value.tuple #[])∧Fo=[bx g0 155 [(vs d)],e]∧RowL 158 2 B3 d c e∧K y0 c H') noQE
def a9v(x0:m6)(H:Hp)(K:ByteArray→Int→Hp→Prop):Prop:=
 Ct pG 61 [(Value.agg (m5 x0).toArray)] H [] (fun v H' Fo=>∃(r0:ByteArray)(r1:Int),v=(Value.tuple #[(Value.string r0),(vi r1)])∧Fo=[]∧K r0 r1 H') noQE
def b0c(x0:i7)(H:Hp)(K:Int→Hp→Prop):Prop:=
 Ct pG 65 [(Value.agg (i5 x0).toArray)] H [] (fun v H' Fo=>∃(r0:Int),v=(vi r0)∧Fo=[]∧K r0 H') noQE
def a7U(x0:a0D)(H:Hp)(K:Bool→Hp→Prop):Prop:=
 Ct pG 155 [(Value.agg (i5 x0.a1J).toArray)] H [] (fun v H' Fo=>∃(r0:Bool),v=(vB r0)∧Fo=[]∧K r0 H') noQE
def a7q(x0:a0D)(H:Hp)(K:Sl→Hp→Prop):Prop:=
 Ct pG 156 [(Value.agg (i5 x0.a1J).toArray)] H [] (fun v H' Fo=>∃(r0:Sl),v=(vs r0)∧Fo=[]∧K r0 H') noQE
def a5H(x0:W6)(H:Hp)(K:Bool→Hp→Prop):Prop:=
 Ct pG 157 [(Value.agg (g7 x0.m1).toArray)] H [] (fun v H' Fo=>∃(r0:Bool),v=(vB r0)∧Fo=[]∧K r0 H') noQE
def a8S(x0:j8)(H:Hp)(K:f5→Hp→Prop):Prop:=
 Ct pG 160 [(Value.agg (f7 x0).toArray)] H [] (fun v H' Fo=>∃(r0:f5),v=(K8 r0)∧Fo=[]∧K r0 H') noQE
def E8(x0:Sl)(H:Hp)(K:Sl→Hp→Prop):Prop:=
 Ct pG 159 [(vs x0),(fC 160)] H [] (fun v H' Fo=>∃(r0:Sl),v=(vs r0)∧Fo=[]∧K r0 H') noQE
def a8T(x0:f8)(H:Hp)(K:f5→Hp→Prop):Prop:=
 Ct pG 162 [(Value.agg (d7 x0).toArray)] H [] (fun v H' Fo=>∃(r0:f5),v=(K8 r0)∧Fo=[]∧K r0 H') noQE
def B2(x0:Sl)(H:Hp)(K:Sl→Hp→Prop):Prop:=
 Ct pG 161 [(vs x0),(fC 162)] H [] (fun v H' Fo=>∃(r0:Sl),v=(vs r0)∧Fo=[]∧K r0 H') noQE
def a7r(x0:W6)(H:Hp)(K:Sl→Hp→Prop):Prop:=
 Ct pG 158 [(Value.agg (g7 x0.m1).toArray)] H [] (fun v H' Fo=>∃(r0:Sl),v=(vs r0)∧Fo=[]∧K r0 H') noQE
def a5I(x0:P2)(H:Hp)(K:Bool→Hp→Prop):Prop:=
 Ct pG 163 [(Value.agg (d7 x0.y7).toArray)] H [] (fun v H' Fo=>∃(r0:Bool),v=(vB r0)∧Fo=[]∧K r0 H') noQE
def a7s(x0:P2)(H:Hp)(K:Sl→Hp→Prop):Prop:=
 Ct pG 164 [(Value.agg (d7 x0.y7).toArray)] H [] (fun v H' Fo=>∃(r0:Sl),v=(vs r0)∧Fo=[]∧K r0 H') noQE
def a5J(x0:W7)(H:Hp)(K:Bool→Hp→Prop):Prop:=
 Ct pG 166 [(Value.agg (f7 x0.s6).toArray)] H [] (fun v H' Fo=>∃(r0:Bool),v=(vB r0)∧Fo=[]∧K r0 H') noQE
def a7t(x0:W7)(H:Hp)(K:Sl→Hp→Prop):Prop:=
 Ct pG 167 [(Value.agg (f7 x0.s6).toArray)] H [] (fun v H' Fo=>∃(r0:Sl),v=(vs r0)∧Fo=[]∧K r0 H') noQE
def a6w(x:f5)(H:Hp)(K:Bool→Hp→Prop):Prop:=match x with
 | .nil=>False
 | .O5 y=>a7U y H K
 | .L6 y=>a5H y H K
 | .K7 y=>a5I y H K
 | .P5 y=>a5J y H K
def a6p(x:f5)(H:Hp)(K:Sl→Hp→Prop):Prop:=match x with
 | .nil=>False
 | .O5 y=>a7q y H K
 | .L6 y=>a7r y H K
 | .K7 y=>a7s y H K
 | .P5 y=>a7t y H K
theorem b2V {E : Pan} {w0 w : World} {ps : Nat → Prop} {H0 H : Hp} {Fr : List Frag} {K : RT} {Kc : Bool → Hp → Prop} {x : f5} (I : Inv w0 ps H0 H Fr w) (h : a6w x H Kc) (hq : ∀ (r0 : Bool) (H' : Hp) (w' : World), Inv w0 ps H0 H' Fr w' → Hle H H' → (∀ i, i < w.heap.size → ¬ inF [] i → w'.heap[i]? = w.heap[i]?) → Kc r0 H' → K (vB r0) w') : oP E (xInvoke (K8 x) "gnomon/tree.form" []) w K := by
 cases x with
 | nil=>exact h.elim
 | O5 y=>exact a6c (f:=155) (args:=[(Value.agg (i5 y.a1J).toArray)].toArray) (by kernel_rfl) (a5D (Fi:=[]) I h (fun v H' Fo w' I' l hk hq'=>by obtain ⟨r0,rfl,rfl,hK⟩:=hq';exact hq r0 H' w' I' l hk hK) (fun _ _ _ _ _ q=>q.elim))
 | L6 y=>exact a6c (f:=157) (args:=[(Value.agg (g7 y.m1).toArray)].toArray) (by kernel_rfl) (a5D (Fi:=[]) I h (fun v H' Fo w' I' l hk hq'=>by obtain ⟨r0,rfl,rfl,hK⟩:=hq';exact hq r0 H' w' I' l hk hK) (fun _ _ _ _ _ q=>q.elim))
 | K7 y=>exact a6c (f:=163) (args:=[(Value.agg (d7 y.y7).toArray)].toArray) (by kernel_rfl) (a5D (Fi:=[]) I h (fun v H' Fo w' I' l hk hq'=>by obtain ⟨r0,rfl,rfl,hK⟩:=hq';exact hq r0 H' w' I' l hk hK) (fun _ _ _ _ _ q=>q.elim))
 | P5 y=>exact a6c (f:=166) (args:=[(Value.agg (f7 y.s6).toArray)].toArray) (by kernel_rfl) (a5D (Fi:=[]) I h (fun v H' Fo w' I' l hk hq'=>by obtain ⟨r0,rfl,rfl,hK⟩:=hq';exact hq r0 H' w' I' l hk hK) (fun _ _ _ _ _ q=>q.elim))
theorem b2C {E : Pan} {w0 w : World} {ps : Nat → Prop} {H0 H : Hp} {Fr : List Frag} {K : RT} {Kc : Sl → Hp → Prop} {x : f5} (I : Inv w0 ps H0 H Fr w) (h : a6p x H Kc) (hq : ∀ (r0 : Sl) (H' : Hp) (w' : World), Inv w0 ps H0 H' Fr w' → Hle H H' → (∀ i, i < w.heap.size → ¬ inF [] i → w'.heap[i]? = w.heap[i]?) → Kc r0 H' → K (vs r0) w') : oP E (xInvoke (K8 x) "gnomon/tree.parts" []) w K := by
 cases x with
 | nil=>exact h.elim
 | O5 y=>exact a6c (f:=156) (args:=[(Value.agg (i5 y.a1J).toArray)].toArray) (by kernel_rfl) (a5D (Fi:=[]) I h (fun v H' Fo w' I' l hk hq'=>by obtain ⟨r0,rfl,rfl,hK⟩:=hq';exact hq r0 H' w' I' l hk hK) (fun _ _ _ _ _ q=>q.elim))
 | L6 y=>exact a6c (f:=158) (args:=[(Value.agg (g7 y.m1).toArray)].toArray) (by kernel_rfl) (a5D (Fi:=[]) I h (fun v H' Fo w' I' l hk hq'=>by obtain ⟨r0,rfl,rfl,hK⟩:=hq';exact hq r0 H' w' I' l hk hK) (fun _ _ _ _ _ q=>q.elim))
 | K7 y=>exact a6c (f:=164) (args:=[(Value.agg (d7 y.y7).toArray)].toArray) (by kernel_rfl) (a5D (Fi:=[]) I h (fun v H' Fo w' I' l hk hq'=>by obtain ⟨r0,rfl,rfl,hK⟩:=hq';exact hq r0 H' w' I' l hk hK) (fun _ _ _ _ _ q=>q.elim))
 | P5 y=>exact a6c (f:=167) (args:=[(Value.agg (f7 y.s6).toArray)].toArray) (by kernel_rfl) (a5D (Fi:=[]) I h (fun v H' Fo w' I' l hk hq'=>by obtain ⟨r0,rfl,rfl,hK⟩:=hq';exact hq r0 H' w' I' l hk hK) (fun _ _ _ _ _ q=>q.elim))
end Go.Proofs.YtaokfhdinhimfaaGreatDoor
