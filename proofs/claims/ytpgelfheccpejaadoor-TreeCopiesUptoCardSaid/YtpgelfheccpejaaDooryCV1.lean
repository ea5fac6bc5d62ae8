/- Contracts of the program's functions; printed by lift.py off the code. -/
import Derived.Test.YtpgelfheccpejaaDooryCU1
import Derived.Test.YtpgelfheccpejaaDooryCG1a
import Derived.Test.YtpgelfheccpejaaDooryCG1b
namespace Go.Proofs.YtpgelfheccpejaaDoor
open Go.RowKit
set_option maxRecDepth 100000
set_option maxHeartbeats 2000000
def O9(H:Hp)(K:d4→Hp→Prop):Prop:=
 Ct pG 12 [] H [] (fun v H' Fo=>∃(r0:d4),v=(Value.agg (f5 r0).toArray)∧Fo=[]∧K r0 H') noQE
def a4q(x0:s7)(H:Hp)(K:c8→Hp→Prop):Prop:=
 Ct pG 51 [(Value.agg (j8 x0).toArray)] H [] (fun v H' Fo=>∃(r0:c8),v=(C7 r0)∧Fo=[]∧K r0 H') noQE
def E1(x0:Sl)(H:Hp)(K:Sl→Hp→Prop):Prop:=
 Ct pG 50 [(vs x0),(fC 51)] H [] (fun v H' Fo=>∃(r0:Sl),v=(vs r0)∧Fo=[]∧K r0 H') noQE
def a4r(x0:c6)(H:Hp)(K:c8→Hp→Prop):Prop:=
 Ct pG 53 [(Value.agg (c5 x0).toArray)] H [] (fun v H' Fo=>∃(r0:c8),v=(C7 r0)∧Fo=[]∧K r0 H') noQE
def t1(x0:Sl)(H:Hp)(K:Sl→Hp→Prop):Prop:=
 Ct pG 52 [(vs x0),(fC 53)] H [] (fun v H' Fo=>∃(r0:Sl),v=(vs r0)∧Fo=[]∧K r0 H') noQE
def O8(x1:Int)(H:Hp)(K:(List c8)→Hp→Prop):Prop:=
 Ct pG 61 [(nS),(vi x1)] H [] (fun v H' Fo=>∃(r0:(List c8))(sr0:Sl)(Fr0:Frag),v=(vs sr0)∧Fo=[Fr0]∧RowL 91 1 o0 sr0 r0 Fr0∧K r0 H') noQE
def A4(x0:Sl)(H:Hp)(K:Sl→Hp→Prop):Prop:=
 Ct pG 49 [(vs x0)] H [] (fun v H' Fo=>∃(r0:Sl),v=(vs r0)∧Fo=[]∧K r0 H') noQE
def a0N(x0:c8)(H:Hp)(K:ByteArray→Bool→Hp→Prop):Prop:=
 Ct pG 62 [(C7 x0)] H [] (fun v H' Fo=>∃(r0:ByteArray)(r1:Bool),v=(Value.tuple #[(Value.string r0),(vB r1)])∧Fo=[]∧K r0 r1 H') noQE
def J0(x0:Int)(x1:Int)(x2:Int)(H:Hp)(K:Bool→Hp→Prop):Prop:=
 ∀(g2:Nat),Ct pG 74 [(Value.int .i32 x0),(Value.int .i32 x1),(Value.pointer (some ⟨g2,0,none⟩))] H [bx g2 21 [(Value.int .i32 x2)]] (fun v H' Fo=>∃(r0:Bool),v=(vB r0)∧Fo=[bx g2 21 [(Value.int .i32 x2)]]∧K r0 H') noQE
def a1K(x0:Int)(H:Hp)(K:Int→Hp→Prop):Prop:=
 Ct pG 70 [(Value.int .i32 x0)] H [] (fun v H' Fo=>∃(r0:Int),v=(vi r0)∧Fo=[]∧K r0 H') noQE
def a2U(x0:Int)(H:Hp)(K:Bool→Hp→Prop):Prop:=
 Ct pG 69 [(Value.int .i32 x0)] H [] (fun v H' Fo=>∃(r0:Bool),v=(vB r0)∧Fo=[]∧K r0 H') noQE
def a2S(x0:ByteArray)(H:Hp)(K:Bool→Hp→Prop):Prop:=
 Ct pG 66 [(Value.string x0)] H [] (fun v H' Fo=>∃(r0:Bool),v=(vB r0)∧Fo=[]∧K r0 H') noQE
def V2(x0:ByteArray)(H:Hp)(K:Int→Hp→Prop):Prop:=
 Ct pG 73 [(Value.string x0)] H [] (fun v H' Fo=>∃(r0:Int),v=(vi r0)∧Fo=[]∧K r0 H') noQE
def a3P(x0:ByteArray)(H:Hp)(K:Bool→Hp→Prop):Prop:=
 Ct pG 67 [(Value.string x0)] H [] (fun v H' Fo=>∃(r0:Bool),v=(vB r0)∧Fo=[]∧K r0 H') noQE
def a3Q(x0:ByteArray)(H:Hp)(K:Bool→Hp→Prop):Prop:=
 Ct pG 68 [(Value.string x0)] H [] (fun v H' Fo=>∃(r0:Bool),v=(vB r0)∧Fo=[]∧K r0 H') noQE
def a2w(x0:ByteArray)(H:Hp)(K:Bool→Hp→Prop):Prop:=
 Ct pG 63 [(Value.string x0)] H [] (fun v H' Fo=>∃(r0:Bool),v=(vB r0)∧Fo=[]∧K r0 H') noQE
def a0p(x0:(List ByteArray))(x1:ByteArray)(H:Hp)(K:Int→Hp→Prop):Prop:=
 ∀(sx0:Sl)(Fx0:Frag),RowL 9 1 L3 sx0 x0 Fx0→Ct pG 71 [(vs sx0),(Value.string x1)] H [Fx0] (fun v H' Fo=>∃(r0:Int),v=(vi r0)∧Fo=[Fx0]∧K r0 H') noQE
def R0(x0:(List ByteArray))(x1:ByteArray)(H:Hp)(K:Bool→Hp→Prop):Prop:=
 ∀(sx0:Sl)(Fx0:Frag),RowL 9 1 L3 sx0 x0 Fx0→Ct pG 64 [(vs sx0),(Value.string x1)] H [Fx0] (fun v H' Fo=>∃(r0:Bool),v=(vB r0)∧Fo=[Fx0]∧K r0 H') noQE
def a0T(x0:f8)(f:(List ByteArray))(x1:c8)(x2:Int)(H:Hp)(K:Bool→f8→(List ByteArray)→Hp→Prop):Prop:=
 ∀(g0:Nat),∀(a:Sl)(b:Frag),RowL 9 1 L3 a f b→Ct pG 55 [(Value.pointer (some ⟨g0,0,none⟩)),(C7 x1),(vi x2)] H [bx g0 68 (a0o x0 a),b] (fun v H' Fo=>∃(r0:Bool)(y0:f8)(c:(List ByteArray))(d:Sl)(e:Frag),v=(vB r0)∧Fo=[bx g0 68 (a0o y0 d),e]∧RowL 9 1 L3 d c e∧K r0 y0 c H') noQE
def U6(x0:Sl)(x1:Int)(x2:f8)(f:(List ByteArray))(H:Hp)(K:Bool→f8→(List ByteArray)→Hp→Prop):Prop:=
 ∀(g2 g2b g3:Nat),∀(a:Sl)(b:Frag),RowL 9 1 L3 a f b→Ct pG 54 [(vs x0),(vi x1),(Value.pointer (some ⟨g2,0,none⟩)),(Value.pointer (some ⟨g3,0,none⟩))] H [bx g2 64 [(Value.pointer (some ⟨g2b,0,none⟩))],bx g2b 68 (a0o x2 a),b,bx g3 96 [(Value.func (.func 54) #[] #[(Value.pointer (some ⟨g2,0,none⟩)),(Value.pointer (some ⟨g3,0,none⟩))])]] (fun v H' Fo=>∃(r0:Bool)(y0:f8)(c:(List ByteArray))(d:Sl)(e:Frag),v=(vB r0)∧Fo=[bx g2 64 [(Value.pointer (some ⟨g2b,0,none⟩))],bx g2b 68 (a0o y0 d),e,bx g3 96 [(Value.func (.func 54) #[] #[(Value.pointer (some ⟨g2,0,none⟩)),(Value.pointer (some ⟨g3,0,none⟩))])]]∧RowL 9 1 L3 d c e∧K r0 y0 c H') noQE
def a1g(x0:Sl)(H:Hp)(K:f8→Hp→Prop):Prop:=
 Ct pG 31 [(vs x0)] H [] (fun v H' Fo=>∃(r0:f8)(gr0:Nat),v=(Value.pointer (some ⟨gr0,0,none⟩))∧Fo=[bx gr0 68 (a6L r0)]∧K r0 H') noQE
def a1d(x0:d4)(H:Hp)(K:f8→Hp→Prop):Prop:=
 Ct pG 30 [(Value.agg (f5 x0).toArray)] H [] (fun v H' Fo=>∃(r0:f8)(gr0:Nat),v=(Value.pointer (some ⟨gr0,0,none⟩))∧Fo=[bx gr0 68 (a6L r0)]∧K r0 H') noQE
def a2V(x0:d4)(H:Hp)(K:Int→Int→Hp→Prop):Prop:=
 Ct pG 11 [(Value.agg (f5 x0).toArray)] H [] (fun v H' Fo=>∃(r0:Int)(r1:Int),v=(Value.tuple #[(vi r0),(vi r1)])∧Fo=[]∧K r0 r1 H') noQE
def a2W(x0:d4)(H:Hp)(K:Int→Int→Hp→Prop):Prop:=
 Ct pG 13 [(Value.agg (f5 x0).toArray)] H [] (fun v H' Fo=>∃(r0:Int)(r1:Int),v=(Value.tuple #[(vi r0),(vi r1)])∧Fo=[]∧K r0 r1 H') noQE
def a3o(x0:b8)(H:Hp)(K:Int→Hp→Prop):Prop:=
 Ct pG 14 [(Value.agg (c7 x0).toArray)] H [] (fun v H' Fo=>∃(r0:Int),v=(vi r0)∧Fo=[]∧K r0 H') noQE
def a1L(x0:d4)(H:Hp)(K:Int→Hp→Prop):Prop:=
 Ct pG 15 [(Value.agg (f5 x0).toArray)] H [] (fun v H' Fo=>∃(r0:Int),v=(vi r0)∧Fo=[]∧K r0 H') noQE
def a0S(x0:d4)(H:Hp)(K:Bool→Hp→Prop):Prop:=
 Ct pG 25 [(Value.agg (f5 x0).toArray)] H [] (fun v H' Fo=>∃(r0:Bool),v=(vB r0)∧Fo=[]∧K r0 H') noQE
def D9(x0:Sl)(x1:Sl)(H:Hp)(K:Bool→Hp→Prop):Prop:=
 Ct pG 26 [(vs x0),(vs x1)] H [] (fun v H' Fo=>∃(r0:Bool),v=(vB r0)∧Fo=[]∧K r0 H') noQE
def a0G(x0:b8)(x1:b8)(H:Hp)(K:Bool→Hp→Prop):Prop:=
 Ct pG 44 [(Value.agg (c7 x0).toArray),(Value.agg (c7 x1).toArray)] H [] (fun v H' Fo=>∃(r0:Bool),v=(vB r0)∧Fo=[]∧K r0 H') noQE
def g7(x0:Sl)(x1:Sl)(H:Hp)(K:Bool→Hp→Prop):Prop:=
 Ct pG 43 [(vs x0),(vs x1),(fC 44)] H [] (fun v H' Fo=>∃(r0:Bool),v=(vB r0)∧Fo=[]∧K r0 H') noQE
def a0H(x0:b9)(x1:b9)(H:Hp)(K:Bool→Hp→Prop):Prop:=
 Ct pG 46 [(Value.agg (c9 x0).toArray),(Value.agg (c9 x1).toArray)] H [] (fun v H' Fo=>∃(r0:Bool),v=(vB r0)∧Fo=[]∧K r0 H') noQE
def i7(x0:Sl)(x1:Sl)(H:Hp)(K:Bool→Hp→Prop):Prop:=
 Ct pG 45 [(vs x0),(vs x1),(fC 46)] H [] (fun v H' Fo=>∃(r0:Bool),v=(vB r0)∧Fo=[]∧K r0 H') noQE
def a0I(x0:c6)(x1:c6)(H:Hp)(K:Bool→Hp→Prop):Prop:=
 Ct pG 28 [(Value.agg (c5 x0).toArray),(Value.agg (c5 x1).toArray)] H [] (fun v H' Fo=>∃(r0:Bool),v=(vB r0)∧Fo=[]∧K r0 H') noQE
def d9(x0:Sl)(x1:Sl)(H:Hp)(K:Bool→Hp→Prop):Prop:=
 Ct pG 27 [(vs x0),(vs x1),(fC 28)] H [] (fun v H' Fo=>∃(r0:Bool),v=(vB r0)∧Fo=[]∧K r0 H') noQE
def a2X(x0:d4)(x1:d4)(H:Hp)(K:Bool→Hp→Prop):Prop:=
 Ct pG 8 [(Value.agg (f5 x0).toArray),(Value.agg (f5 x1).toArray)] H [] (fun v H' Fo=>∃(r0:Bool),v=(vB r0)∧Fo=[]∧K r0 H') noQE
def a3g(H:Hp)(K:Bool→Hp→Prop):Prop:=
 Ct pG 4 [] H [] (fun v H' Fo=>∃(r0:Bool),v=(vB r0)∧Fo=[]∧K r0 H') noQE
def L5(x0:Sl)(H:Hp)(K:Sl→Hp→Prop):Prop:=
 Ct pG 16 [(vs x0)] H [] (fun v H' Fo=>∃(r0:Sl),v=(vs r0)∧Fo=[]∧K r0 H') noQE
def a2h(x0:b8)(H:Hp)(K:b8→Hp→Prop):Prop:=
 Ct pG 33 [(Value.agg (c7 x0).toArray)] H [] (fun v H' Fo=>∃(r0:b8),v=(Value.agg (c7 r0).toArray)∧Fo=[]∧K r0 H') noQE
def r8(x0:Sl)(H:Hp)(K:Sl→Hp→Prop):Prop:=
 Ct pG 32 [(vs x0),(fC 33)] H [] (fun v H' Fo=>∃(r0:Sl),v=(vs r0)∧Fo=[]∧K r0 H') noQE
def a2i(x0:b9)(H:Hp)(K:b9→Hp→Prop):Prop:=
 Ct pG 35 [(Value.agg (c9 x0).toArray)] H [] (fun v H' Fo=>∃(r0:b9),v=(Value.agg (c9 r0).toArray)∧Fo=[]∧K r0 H') noQE
def v8(x0:Sl)(H:Hp)(K:Sl→Hp→Prop):Prop:=
 Ct pG 34 [(vs x0),(fC 35)] H [] (fun v H' Fo=>∃(r0:Sl),v=(vs r0)∧Fo=[]∧K r0 H') noQE
def a2j(x0:c6)(H:Hp)(K:c6→Hp→Prop):Prop:=
 Ct pG 18 [(Value.agg (c5 x0).toArray)] H [] (fun v H' Fo=>∃(r0:c6),v=(Value.agg (c5 r0).toArray)∧Fo=[]∧K r0 H') noQE
def r9(x0:Sl)(H:Hp)(K:Sl→Hp→Prop):Prop:=
 Ct pG 17 [(vs x0),(fC 18)] H [] (fun v H' Fo=>∃(r0:Sl),v=(vs r0)∧Fo=[]∧K r0 H') noQE
def a4Y(x0:d4)(H:Hp)(K:d4→Int→Hp→Prop):Prop:=
 Ct pG 5 [(Value.agg (f5 x0).toArray)] H [] (fun v H' Fo=>∃(r0:d4)(r1:Int),v=(Value.tuple #[(Value.agg (f5 r0).toArray),(vi r1)])∧Fo=[]∧K r0 r1 H') noQE
def Z1(x0:a7)(H:Hp)(K:Int→Hp→Prop):Prop:=
 Ct pG 22 [(Value.agg (f9 x0).toArray)] H [] (fun v H' Fo=>∃(r0:Int),v=(vi r0)∧Fo=[]∧K r0 H') noQE
def a1z(x0:ByteArray)(x1:Int)(H:Hp)(K:Int→Int→Bool→Hp→Prop):Prop:=
 Ct pG 59 [(Value.string x0),(vi x1)] H [] (fun v H' Fo=>∃(r0:Int)(r1:Int)(r2:Bool),v=(Value.tuple #[(vi r0),(vi r1),(vB r2)])∧Fo=[]∧K r0 r1 r2 H') noQE
def C6(x0:Int)(x1:Int)(x2:Int)(H:Hp)(K:Bool→Hp→Prop):Prop:=
 Ct pG 65 [(vi x0),(vi x1),(vi x2)] H [] (fun v H' Fo=>∃(r0:Bool),v=(vB r0)∧Fo=[]∧K r0 H') noQE
def a1h(x0:Int)(H:Hp)(K:Int→Hp→Prop):Prop:=
 Ct pG 60 [(vi x0)] H [] (fun v H' Fo=>∃(r0:Int),v=(vi r0)∧Fo=[]∧K r0 H') noQE
def a1A(x0:ByteArray)(H:Hp)(K:Bool→Hp→Prop):Prop:=
 Ct pG 58 [(Value.string x0)] H [] (fun v H' Fo=>∃(r0:Bool),v=(vB r0)∧Fo=[]∧K r0 H') noQE
def Y4(x0:ByteArray)(H:Hp)(K:Bool→Hp→Prop):Prop:=
 Ct pG 38 [(Value.string x0)] H [] (fun v H' Fo=>∃(r0:Bool),v=(vB r0)∧Fo=[]∧K r0 H') noQE
def N4(x0:a7)(x1:ByteArray)(x2:Bool)(H:Hp)(K:a7→Hp→Prop):Prop:=
 ∀(g0:Nat),Ct pG 20 [(Value.pointer (some ⟨g0,0,none⟩)),(Value.string x1),(vB x2)] H [bx g0 55 (f9 x0)] (fun v H' Fo=>∃(y0:a7),v=(Value.tuple #[])∧Fo=[bx g0 55 (f9 y0)]∧K y0 H') noQE
def N5(x0:a7)(x1:b8)(H:Hp)(K:a7→Hp→Prop):Prop:=
 ∀(g0:Nat),Ct pG 40 [(Value.pointer (some ⟨g0,0,none⟩)),(Value.agg (c7 x1).toArray)] H [bx g0 55 (f9 x0)] (fun v H' Fo=>∃(y0:a7),v=(Value.tuple #[])∧Fo=[bx g0 55 (f9 y0)]∧K y0 H') noQE
def S6(x0:a7)(x1:b9)(H:Hp)(K:a7→Hp→Prop):Prop:=
 ∀(g0:Nat),Ct pG 39 [(Value.pointer (some ⟨g0,0,none⟩)),(Value.agg (c9 x1).toArray)] H [bx g0 55 (f9 x0)] (fun v H' Fo=>∃(y0:a7),v=(Value.tuple #[])∧Fo=[bx g0 55 (f9 y0)]∧K y0 H') noQE
def N6(x0:a7)(x1:c6)(H:Hp)(K:a7→Hp→Prop):Prop:=
 ∀(g0:Nat),Ct pG 21 [(Value.pointer (some ⟨g0,0,none⟩)),(Value.agg (c5 x1).toArray)] H [bx g0 55 (f9 x0)] (fun v H' Fo=>∃(y0:a7),v=(Value.tuple #[])∧Fo=[bx g0 55 (f9 y0)]∧K y0 H') noQE
def J8(x0:a8)(x1:Int)(H:Hp)(K:Bool→a8→Hp→Prop):Prop:=
 ∀(g0:Nat),Ct pG 36 [(Value.pointer (some ⟨g0,0,none⟩)),(vi x1)] H [bx g0 52 (g9 x0)] (fun v H' Fo=>∃(r0:Bool)(y0:a8),v=(vB r0)∧Fo=[bx g0 52 (g9 y0)]∧K r0 y0 H') noQE
def N7(x0:a8)(x1:b8)(x2:Int)(H:Hp)(K:a8→Hp→Prop):Prop:=
 ∀(g0:Nat),Ct pG 57 [(Value.pointer (some ⟨g0,0,none⟩)),(Value.agg (c7 x1).toArray),(vi x2)] H [bx g0 52 (g9 x0)] (fun v H' Fo=>∃(y0:a8),v=(Value.tuple #[])∧Fo=[bx g0 52 (g9 y0)]∧K y0 H') noQE
def S7(x0:a8)(x1:b9)(x2:Int)(H:Hp)(K:a8→Hp→Prop):Prop:=
 ∀(g0:Nat),Ct pG 56 [(Value.pointer (some ⟨g0,0,none⟩)),(Value.agg (c9 x1).toArray),(vi x2)] H [bx g0 52 (g9 x0)] (fun v H' Fo=>∃(y0:a8),v=(Value.tuple #[])∧Fo=[bx g0 52 (g9 y0)]∧K y0 H') noQE
def N8(x0:a8)(x1:c6)(x2:Int)(H:Hp)(K:a8→Hp→Prop):Prop:=
 ∀(g0:Nat),Ct pG 37 [(Value.pointer (some ⟨g0,0,none⟩)),(Value.agg (c5 x1).toArray),(vi x2)] H [bx g0 52 (g9 x0)] (fun v H' Fo=>∃(y0:a8),v=(Value.tuple #[])∧Fo=[bx g0 52 (g9 y0)]∧K y0 H') noQE
def U9(x0:d4)(H:Hp)(K:a8→Hp→Prop):Prop:=
 Ct pG 19 [(Value.agg (f5 x0).toArray)] H [] (fun v H' Fo=>∃(r0:a8),v=(Value.agg (g9 r0).toArray)∧Fo=[]∧K r0 H') noQE
def a3h(x0:d4)(H:Hp)(K:Int→Hp→Prop):Prop:=
 Ct pG 6 [(Value.agg (f5 x0).toArray)] H [] (fun v H' Fo=>∃(r0:Int),v=(vi r0)∧Fo=[]∧K r0 H') noQE
def a0j(x0:d4)(H:Hp)(K:Bool→Hp→Prop):Prop:=
 Ct pG 23 [(Value.agg (f5 x0).toArray)] H [] (fun v H' Fo=>∃(r0:Bool),v=(vB r0)∧Fo=[]∧K r0 H') noQE
def O5(x0:b8)(x1:b8)(H:Hp)(K:Bool→Hp→Prop):Prop:=
 Ct pG 42 [(Value.agg (c7 x0).toArray),(Value.agg (c7 x1).toArray)] H [] (fun v H' Fo=>∃(r0:Bool),v=(vB r0)∧Fo=[]∧K r0 H') noQE
def T4(x0:b9)(x1:b9)(H:Hp)(K:Bool→Hp→Prop):Prop:=
 Ct pG 41 [(Value.agg (c9 x0).toArray),(Value.agg (c9 x1).toArray)] H [] (fun v H' Fo=>∃(r0:Bool),v=(vB r0)∧Fo=[]∧K r0 H') noQE
def J9(x0:Sl)(x1:Sl)(H:Hp)(K:Bool→Hp→Prop):Prop:=
 Ct pG 24 [(vs x0),(vs x1)] H [] (fun v H' Fo=>∃(r0:Bool),v=(vB r0)∧Fo=[]∧K r0 H') noQE
def a3i(x0:d4)(x1:d4)(H:Hp)(K:Bool→Hp→Prop):Prop:=
 Ct pG 7 [(Value.agg (f5 x0).toArray),(Value.agg (f5 x1).toArray)] H [] (fun v H' Fo=>∃(r0:Bool),v=(vB r0)∧Fo=[]∧K r0 H') noQE
def O6(x0:b8)(H:Hp)(K:b8→Hp→Prop):Prop:=
 Ct pG 48 [(Value.agg (c7 x0).toArray)] H [] (fun v H' Fo=>∃(r0:b8),v=(Value.agg (c7 r0).toArray)∧Fo=[]∧K r0 H') noQE
def T5(x0:b9)(H:Hp)(K:b9→Hp→Prop):Prop:=
 Ct pG 47 [(Value.agg (c9 x0).toArray)] H [] (fun v H' Fo=>∃(r0:b9),v=(Value.agg (c9 r0).toArray)∧Fo=[]∧K r0 H') noQE
def N9(x0:Sl)(H:Hp)(K:Sl→Hp→Prop):Prop:=
 Ct pG 29 [(vs x0)] H [] (fun v H' Fo=>∃(r0:Sl),v=(vs r0)∧Fo=[]∧K r0 H') noQE
def a3p(x0:d4)(H:Hp)(K:d4→Hp→Prop):Prop:=
 Ct pG 9 [(Value.agg (f5 x0).toArray)] H [] (fun v H' Fo=>∃(r0:d4),v=(Value.agg (f5 r0).toArray)∧Fo=[]∧K r0 H') noQE
def a2d(x0:d4)(H:Hp)(K:Bool→Hp→Prop):Prop:=
 Ct pG 3 [(Value.agg (f5 x0).toArray)] H [] (fun v H' Fo=>∃(r0:Bool),v=(vB r0)∧Fo=[]∧K r0 H') noQE
def a1N(x0:D6)(H:Hp)(K:Bool→Hp→Prop):Prop:=
 Ct pG 91 [(Value.agg (c7 x0.p9).toArray)] H [] (fun v H' Fo=>∃(r0:Bool),v=(vB r0)∧Fo=[]∧K r0 H') noQE
def a4s(x0:b8)(H:Hp)(K:c8→Hp→Prop):Prop:=
 Ct pG 94 [(Value.agg (c7 x0).toArray)] H [] (fun v H' Fo=>∃(r0:c8),v=(C7 r0)∧Fo=[]∧K r0 H') noQE
def t6(x0:Sl)(H:Hp)(K:Sl→Hp→Prop):Prop:=
 Ct pG 93 [(vs x0),(fC 94)] H [] (fun v H' Fo=>∃(r0:Sl),v=(vs r0)∧Fo=[]∧K r0 H') noQE
def a3q(x0:D6)(H:Hp)(K:Sl→Hp→Prop):Prop:=
 Ct pG 92 [(Value.agg (c7 x0.p9).toArray)] H [] (fun v H' Fo=>∃(r0:Sl),v=(vs r0)∧Fo=[]∧K r0 H') noQE
def a3N(x0:T2)(H:Hp)(K:Bool→Hp→Prop):Prop:=
 Ct pG 95 [(Value.agg (j8 x0.X2).toArray)] H [] (fun v H' Fo=>∃(r0:Bool),v=(vB r0)∧Fo=[]∧K r0 H') noQE
def a3r(x0:T2)(H:Hp)(K:Sl→Hp→Prop):Prop:=
 Ct pG 96 [(Value.agg (j8 x0.X2).toArray)] H [] (fun v H' Fo=>∃(r0:Sl),v=(vs r0)∧Fo=[]∧K r0 H') noQE
def a1O(x0:P0)(H:Hp)(K:Bool→Hp→Prop):Prop:=
 Ct pG 97 [(Value.agg (c5 x0.d6).toArray)] H [] (fun v H' Fo=>∃(r0:Bool),v=(vB r0)∧Fo=[]∧K r0 H') noQE
def a4t(x0:b9)(H:Hp)(K:c8→Hp→Prop):Prop:=
 Ct pG 100 [(Value.agg (c9 x0).toArray)] H [] (fun v H' Fo=>∃(r0:c8),v=(C7 r0)∧Fo=[]∧K r0 H') noQE
def A9(x0:Sl)(H:Hp)(K:Sl→Hp→Prop):Prop:=
 Ct pG 99 [(vs x0),(fC 100)] H [] (fun v H' Fo=>∃(r0:Sl),v=(vs r0)∧Fo=[]∧K r0 H') noQE
def a3s(x0:P0)(H:Hp)(K:Sl→Hp→Prop):Prop:=
 Ct pG 98 [(Value.agg (c5 x0.d6).toArray)] H [] (fun v H' Fo=>∃(r0:Sl),v=(vs r0)∧Fo=[]∧K r0 H') noQE
def a1P(x0:P1)(H:Hp)(K:Bool→Hp→Prop):Prop:=
 Ct pG 102 [(Value.agg (c9 x0.m6).toArray)] H [] (fun v H' Fo=>∃(r0:Bool),v=(vB r0)∧Fo=[]∧K r0 H') noQE
def a3t(x0:P1)(H:Hp)(K:Sl→Hp→Prop):Prop:=
 Ct pG 103 [(Value.agg (c9 x0.m6).toArray)] H [] (fun v H' Fo=>∃(r0:Sl),v=(vs r0)∧Fo=[]∧K r0 H') noQE
def a2G(x:c8)(H:Hp)(K:Bool→Hp→Prop):Prop:=match x with
 | .nil=>False
 | .B5 y=>a1N y H K
 | .J3 y=>a3N y H K
 | .D4 y=>a1O y H K
 | .K1 y=>a1P y H K
def a2z(x:c8)(H:Hp)(K:Sl→Hp→Prop):Prop:=match x with
 | .nil=>False
 | .B5 y=>a3q y H K
 | .J3 y=>a3r y H K
 | .D4 y=>a3s y H K
 | .K1 y=>a3t y H K
theorem a6M {E : Pan} {w0 w : World} {ps : Nat → Prop} {H0 H : Hp} {Fr : List Frag} {K : RT} {Kc : Bool → Hp → Prop} {x : c8} (I : Inv w0 ps H0 H Fr w) (h : a2G x H Kc) (hq : ∀ (r0 : Bool) (H' : Hp) (w' : World), Inv w0 ps H0 H' Fr w' → Hle H H' → (∀ i, i < w.heap.size → ¬ inF [] i → w'.heap[i]? = w.heap[i]?) → Kc r0 H' → K (vB r0) w') : oP E (xInvoke (C7 x) "gnomon/tree.form" []) w K := by
 cases x with
 | nil=>exact h.elim
 | B5 y=>exact a2E (f:=91) (args:=[(Value.agg (c7 y.p9).toArray)].toArray) (by kernel_rfl) (a5m (Fi:=[]) I h (fun v H' Fo w' I' l hk hq'=>by obtain ⟨r0,rfl,rfl,hK⟩:=hq';exact hq r0 H' w' I' l hk hK) (fun _ _ _ _ _ q=>q.elim))
 | J3 y=>exact a2E (f:=95) (args:=[(Value.agg (j8 y.X2).toArray)].toArray) (by kernel_rfl) (a5m (Fi:=[]) I h (fun v H' Fo w' I' l hk hq'=>by obtain ⟨r0,rfl,rfl,hK⟩:=hq';exact hq r0 H' w' I' l hk hK) (fun _ _ _ _ _ q=>q.elim))
 | D4 y=>exact a2E (f:=97) (args:=[(Value.agg (c5 y.d6).toArray)].toArray) (by kernel_rfl) (a5m (Fi:=[]) I h (fun v H' Fo w' I' l hk hq'=>by obtain ⟨r0,rfl,rfl,hK⟩:=hq';exact hq r0 H' w' I' l hk hK) (fun _ _ _ _ _ q=>q.elim))
 | K1 y=>exact a2E (f:=102) (args:=[(Value.agg (c9 y.m6).toArray)].toArray) (by kernel_rfl) (a5m (Fi:=[]) I h (fun v H' Fo w' I' l hk hq'=>by obtain ⟨r0,rfl,rfl,hK⟩:=hq';exact hq r0 H' w' I' l hk hK) (fun _ _ _ _ _ q=>q.elim))
theorem a6s {E : Pan} {w0 w : World} {ps : Nat → Prop} {H0 H : Hp} {Fr : List Frag} {K : RT} {Kc : Sl → Hp → Prop} {x : c8} (I : Inv w0 ps H0 H Fr w) (h : a2z x H Kc) (hq : ∀ (r0 : Sl) (H' : Hp) (w' : World), Inv w0 ps H0 H' Fr w' → Hle H H' → (∀ i, i < w.heap.size → ¬ inF [] i → w'.heap[i]? = w.heap[i]?) → Kc r0 H' → K (vs r0) w') : oP E (xInvoke (C7 x) "gnomon/tree.parts" []) w K := by
 cases x with
 | nil=>exact h.elim
 | B5 y=>exact a2E (f:=92) (args:=[(Value.agg (c7 y.p9).toArray)].toArray) (by kernel_rfl) (a5m (Fi:=[]) I h (fun v H' Fo w' I' l hk hq'=>by obtain ⟨r0,rfl,rfl,hK⟩:=hq';exact hq r0 H' w' I' l hk hK) (fun _ _ _ _ _ q=>q.elim))
 | J3 y=>exact a2E (f:=96) (args:=[(Value.agg (j8 y.X2).toArray)].toArray) (by kernel_rfl) (a5m (Fi:=[]) I h (fun v H' Fo w' I' l hk hq'=>by obtain ⟨r0,rfl,rfl,hK⟩:=hq';exact hq r0 H' w' I' l hk hK) (fun _ _ _ _ _ q=>q.elim))
 | D4 y=>exact a2E (f:=98) (args:=[(Value.agg (c5 y.d6).toArray)].toArray) (by kernel_rfl) (a5m (Fi:=[]) I h (fun v H' Fo w' I' l hk hq'=>by obtain ⟨r0,rfl,rfl,hK⟩:=hq';exact hq r0 H' w' I' l hk hK) (fun _ _ _ _ _ q=>q.elim))
 | K1 y=>exact a2E (f:=103) (args:=[(Value.agg (c9 y.m6).toArray)].toArray) (by kernel_rfl) (a5m (Fi:=[]) I h (fun v H' Fo w' I' l hk hq'=>by obtain ⟨r0,rfl,rfl,hK⟩:=hq';exact hq r0 H' w' I' l hk hK) (fun _ _ _ _ _ q=>q.elim))
end Go.Proofs.YtpgelfheccpejaaDoor
