/- Contracts of the program's functions; printed by lift.py off the code. -/
import Derived.Test.YtnhdnncbjddmjaaGreatDooryEU1
import Derived.Test.YtnhdnncbjddmjaaGreatDooryEG1a
import Derived.Test.YtnhdnncbjddmjaaGreatDooryEG1b
namespace Go.Proofs.YtnhdnncbjddmjaaGreatDoor
open Go.RowKit
set_option maxRecDepth 100000
set_option maxHeartbeats 2000000
def Z7(x0:c6)(H:Hp)(K:ByteArray→Bool→Hp→Prop):Prop:=
 Ct pG 80 [(A8 x0)] H [] (fun v H' Fo=>∃(r0:ByteArray)(r1:Bool),v=(Value.tuple #[(Value.string r0),(vB r1)])∧Fo=[]∧K r0 r1 H') noQE
def D4(x0:Int)(x1:Int)(x2:Int)(H:Hp)(K:Bool→Hp→Prop):Prop:=
 ∀(g2:Nat),Ct pG 106 [(Value.int .i32 x0),(Value.int .i32 x1),(Value.pointer (some ⟨g2,0,none⟩))] H [bx g2 21 [(Value.int .i32 x2)]] (fun v H' Fo=>∃(r0:Bool),v=(vB r0)∧Fo=[bx g2 21 [(Value.int .i32 x2)]]∧K r0 H') noQE
def a1p(x0:Int)(H:Hp)(K:Int→Hp→Prop):Prop:=
 Ct pG 99 [(Value.int .i32 x0)] H [] (fun v H' Fo=>∃(r0:Int),v=(vi r0)∧Fo=[]∧K r0 H') noQE
def a2D(x0:Int)(H:Hp)(K:Bool→Hp→Prop):Prop:=
 Ct pG 98 [(Value.int .i32 x0)] H [] (fun v H' Fo=>∃(r0:Bool),v=(vB r0)∧Fo=[]∧K r0 H') noQE
def a2A(x0:ByteArray)(H:Hp)(K:Bool→Hp→Prop):Prop:=
 Ct pG 95 [(Value.string x0)] H [] (fun v H' Fo=>∃(r0:Bool),v=(vB r0)∧Fo=[]∧K r0 H') noQE
def R7(x0:ByteArray)(H:Hp)(K:Int→Hp→Prop):Prop:=
 Ct pG 105 [(Value.string x0)] H [] (fun v H' Fo=>∃(r0:Int),v=(vi r0)∧Fo=[]∧K r0 H') noQE
def a3z(x0:ByteArray)(H:Hp)(K:Bool→Hp→Prop):Prop:=
 Ct pG 96 [(Value.string x0)] H [] (fun v H' Fo=>∃(r0:Bool),v=(vB r0)∧Fo=[]∧K r0 H') noQE
def a3A(x0:ByteArray)(H:Hp)(K:Bool→Hp→Prop):Prop:=
 Ct pG 97 [(Value.string x0)] H [] (fun v H' Fo=>∃(r0:Bool),v=(vB r0)∧Fo=[]∧K r0 H') noQE
def a1T(x0:ByteArray)(H:Hp)(K:Bool→Hp→Prop):Prop:=
 Ct pG 81 [(Value.string x0)] H [] (fun v H' Fo=>∃(r0:Bool),v=(vB r0)∧Fo=[]∧K r0 H') noQE
def Y0(x0:(List ByteArray))(x1:ByteArray)(H:Hp)(K:Int→Hp→Prop):Prop:=
 ∀(sx0:Sl)(Fx0:Frag),RowL 9 1 j8 sx0 x0 Fx0→Ct pG 100 [(vs sx0),(Value.string x1)] H [Fx0] (fun v H' Fo=>∃(r0:Int),v=(vi r0)∧Fo=[Fx0]∧K r0 H') noQE
def N2(x0:(List ByteArray))(x1:ByteArray)(H:Hp)(K:Bool→Hp→Prop):Prop:=
 ∀(sx0:Sl)(Fx0:Frag),RowL 9 1 j8 sx0 x0 Fx0→Ct pG 82 [(vs sx0),(Value.string x1)] H [Fx0] (fun v H' Fo=>∃(r0:Bool),v=(vB r0)∧Fo=[Fx0]∧K r0 H') noQE
def a0g(x0:f7)(f:(List ByteArray))(x1:c6)(x2:Int)(H:Hp)(K:Bool→f7→(List ByteArray)→Hp→Prop):Prop:=
 ∀(g0:Nat),∀(a:Sl)(b:Frag),RowL 9 1 j8 a f b→Ct pG 61 [(Value.pointer (some ⟨g0,0,none⟩)),(A8 x1),(vi x2)] H [bx g0 65 (X9 x0 a),b] (fun v H' Fo=>∃(r0:Bool)(y0:f7)(c:(List ByteArray))(d:Sl)(e:Frag),v=(vB r0)∧Fo=[bx g0 65 (X9 y0 d),e]∧RowL 9 1 j8 d c e∧K r0 y0 c H') noQE
def Q7(x0:Sl)(x1:Int)(x2:f7)(f:(List ByteArray))(H:Hp)(K:Bool→f7→(List ByteArray)→Hp→Prop):Prop:=
 ∀(g2 g2b g3:Nat),∀(a:Sl)(b:Frag),RowL 9 1 j8 a f b→Ct pG 60 [(vs x0),(vi x1),(Value.pointer (some ⟨g2,0,none⟩)),(Value.pointer (some ⟨g3,0,none⟩))] H [bx g2 66 [(Value.pointer (some ⟨g2b,0,none⟩))],bx g2b 65 (X9 x2 a),b,bx g3 111 [(Value.func (.func 60) #[] #[(Value.pointer (some ⟨g2,0,none⟩)),(Value.pointer (some ⟨g3,0,none⟩))])]] (fun v H' Fo=>∃(r0:Bool)(y0:f7)(c:(List ByteArray))(d:Sl)(e:Frag),v=(vB r0)∧Fo=[bx g2 66 [(Value.pointer (some ⟨g2b,0,none⟩))],bx g2b 65 (X9 y0 d),e,bx g3 111 [(Value.func (.func 60) #[] #[(Value.pointer (some ⟨g2,0,none⟩)),(Value.pointer (some ⟨g3,0,none⟩))])]]∧RowL 9 1 j8 d c e∧K r0 y0 c H') noQE
def a0z(x0:Sl)(H:Hp)(K:f7→Hp→Prop):Prop:=
 Ct pG 36 [(vs x0)] H [] (fun v H' Fo=>∃(r0:f7)(gr0:Nat),v=(Value.pointer (some ⟨gr0,0,none⟩))∧Fo=[bx gr0 65 (a6J r0)]∧K r0 H') noQE
def a2Q(x0:d8)(H:Hp)(K:Int→Hp→Prop):Prop:=
 Ct pG 18 [(Value.agg (c7 x0).toArray)] H [] (fun v H' Fo=>∃(r0:Int),v=(vi r0)∧Fo=[]∧K r0 H') noQE
def U8(x0:Int)(H:Hp)(K:Int→Hp→Prop):Prop:=
 Ct pG 37 [(vi x0)] H [] (fun v H' Fo=>∃(r0:Int),v=(vi r0)∧Fo=[]∧K r0 H') noQE
def a4E(x0:Int)(x1:Int)(H:Hp)(K:ByteArray→Hp→Prop):Prop:=
 Ct pG 38 [(vi x0),(vi x1)] H [] (fun v H' Fo=>∃(r0:ByteArray),v=(Value.string r0)∧Fo=[]∧K r0 H') noQE
def a1Y(x0:c5)(c:(List Int))(H:Hp)(K:Int→Hp→Prop):Prop:=
 ∀(g0:Nat),∀(a:Sl)(b:Frag),RowL 5 1 k9 a c b→Ct pG 29 [(Value.pointer (some ⟨g0,0,none⟩))] H [bx g0 44 (d5 g0 x0 a),b] (fun v H' Fo=>∃(r0:Int),v=(vi r0)∧Fo=[bx g0 44 (d5 g0 x0 a),b]∧K r0 H') noQE
def R1(x0:c5)(c:(List Int))(H:Hp)(K:Bool→Hp→Prop):Prop:=
 ∀(g0:Nat),∀(a:Sl)(b:Frag),RowL 5 1 k9 a c b→Ct pG 12 [(Value.pointer (some ⟨g0,0,none⟩))] H [bx g0 44 (d5 g0 x0 a),b] (fun v H' Fo=>∃(r0:Bool),v=(vB r0)∧Fo=[bx g0 44 (d5 g0 x0 a),b]∧K r0 H') noQE
def a2d(x0:c5)(f:(List Int))(H:Hp)(K:c5→(List Int)→Hp→Prop):Prop:=
 ∀(g0:Nat),∀(a:Sl)(b:Frag),RowL 5 1 k9 a f b→Ct pG 68 [(Value.pointer (some ⟨g0,0,none⟩))] H [bx g0 44 (d5 g0 x0 a),b] (fun v H' Fo=>∃(y0:c5)(c:(List Int))(d:Sl)(e:Frag),v=(Value.tuple #[])∧Fo=[bx g0 44 (d5 g0 y0 d),e]∧RowL 5 1 k9 d c e∧K y0 c H') noQE
def W1(x0:c5)(f:(List Int))(x1:ByteArray)(H:Hp)(K:Int→Value→c5→(List Int)→Hp→Prop):Prop:=
 ∀(g0:Nat),∀(a:Sl)(b:Frag),RowL 5 1 k9 a f b→Ct pG 47 [(Value.pointer (some ⟨g0,0,none⟩)),(Value.string x1)] H [bx g0 44 (d5 g0 x0 a),b] (fun v H' Fo=>∃(r0:Int)(r1:Value)(y0:c5)(c:(List Int))(d:Sl)(e:Frag),v=(Value.tuple #[(vi r0),r1])∧Fo=[bx g0 44 (d5 g0 y0 d),e]∧RowL 5 1 k9 d c e∧K r0 r1 y0 c H') noQE
def m9(x0:c5)(f:(List Int))(x1:Sl)(H:Hp)(K:c5→(List Int)→Hp→Prop):Prop:=
 ∀(g0:Nat),∀(a:Sl)(b:Frag),RowL 5 1 k9 a f b→Ct pG 23 [(Value.pointer (some ⟨g0,0,none⟩)),(vs x1)] H [bx g0 44 (d5 g0 x0 a),b] (fun v H' Fo=>∃(y0:c5)(c:(List Int))(d:Sl)(e:Frag),v=(Value.tuple #[])∧Fo=[bx g0 44 (d5 g0 y0 d),e]∧RowL 5 1 k9 d c e∧K y0 c H') noQE
def T8(x0:c5)(f:(List Int))(x1:d8)(x2:Int)(H:Hp)(K:c5→(List Int)→Hp→Prop):Prop:=
 ∀(g0:Nat),∀(a:Sl)(b:Frag),RowL 5 1 k9 a f b→Ct pG 39 [(Value.pointer (some ⟨g0,0,none⟩)),(Value.agg (c7 x1).toArray),(vi x2)] H [bx g0 44 (d5 g0 x0 a),b] (fun v H' Fo=>∃(y0:c5)(c:(List Int))(d:Sl)(e:Frag),v=(Value.tuple #[])∧Fo=[bx g0 44 (d5 g0 y0 d),e]∧RowL 5 1 k9 d c e∧K y0 c H') noQE
def a1r(x0:Int)(H:Hp)(K:ByteArray→Hp→Prop):Prop:=
 Ct pG 40 [(vi x0)] H [] (fun v H' Fo=>∃(r0:ByteArray),v=(Value.string r0)∧Fo=[]∧K r0 H') noQE
def u4(x0:c5)(f:(List Int))(x1:d8)(H:Hp)(K:c5→(List Int)→Hp→Prop):Prop:=
 ∀(g0:Nat),∀(a:Sl)(b:Frag),RowL 5 1 k9 a f b→Ct pG 19 [(Value.pointer (some ⟨g0,0,none⟩)),(Value.agg (c7 x1).toArray)] H [bx g0 44 (d5 g0 x0 a),b] (fun v H' Fo=>∃(y0:c5)(c:(List Int))(d:Sl)(e:Frag),v=(Value.tuple #[])∧Fo=[bx g0 44 (d5 g0 y0 d),e]∧RowL 5 1 k9 d c e∧K y0 c H') noQE
def a0V(x0:c5)(f:(List Int))(H:Hp)(K:ByteArray→c5→(List Int)→Hp→Prop):Prop:=
 ∀(g0:Nat),∀(a:Sl)(b:Frag),RowL 5 1 k9 a f b→Ct pG 13 [(Value.pointer (some ⟨g0,0,none⟩))] H [bx g0 44 (d5 g0 x0 a),b] (fun v H' Fo=>∃(r0:ByteArray)(y0:c5)(c:(List Int))(d:Sl)(e:Frag),v=(Value.string r0)∧Fo=[bx g0 44 (d5 g0 y0 d),e]∧True∧K r0 y0 c H') noQE
def a4F(x0:d8)(H:Hp)(K:ByteArray→Int→Hp→Prop):Prop:=
 Ct pG 7 [(Value.agg (c7 x0).toArray)] H [] (fun v H' Fo=>∃(r0:ByteArray)(r1:Int),v=(Value.tuple #[(Value.string r0),(vi r1)])∧Fo=[]∧K r0 r1 H') noQE
def a0A(H:Hp)(K:Bool→Hp→Prop):Prop:=
 Ct pG 4 [] H [] (fun v H' Fo=>∃(r0:Bool),v=(vB r0)∧Fo=[]∧K r0 H') noQE
def R2(x0:c5)(f:(List Int))(x1:i6)(H:Hp)(K:c5→(List Int)→Hp→Prop):Prop:=
 ∀(g0:Nat),∀(a:Sl)(b:Frag),RowL 5 1 k9 a f b→Ct pG 11 [(Value.pointer (some ⟨g0,0,none⟩)),(Value.agg (d7 x1).toArray)] H [bx g0 44 (d5 g0 x0 a),b] (fun v H' Fo=>∃(y0:c5)(c:(List Int))(d:Sl)(e:Frag),v=(Value.tuple #[])∧Fo=[bx g0 44 (d5 g0 y0 d),e]∧RowL 5 1 k9 d c e∧K y0 c H') noQE
def Z8(x0:c5)(f:(List Int))(x1:Sl)(H:Hp)(K:c5→(List Int)→Hp→Prop):Prop:=
 ∀(g0:Nat),∀(a:Sl)(b:Frag),RowL 5 1 k9 a f b→Ct pG 9 [(Value.pointer (some ⟨g0,0,none⟩)),(vs x1)] H [bx g0 44 (d5 g0 x0 a),b] (fun v H' Fo=>∃(y0:c5)(c:(List Int))(d:Sl)(e:Frag),v=(Value.tuple #[])∧Fo=[bx g0 44 (d5 g0 y0 d),e]∧RowL 5 1 k9 d c e∧K y0 c H') noQE
def a6K(x0:Int)(H:Hp)(K:ByteArray→Hp→Prop):Prop:=
 Ct pG 10 [(vi x0)] H [] (fun v H' Fo=>∃(r0:ByteArray),v=(Value.string r0)∧Fo=[]∧K r0 H') noQE
def a4f(x0:G4)(H:Hp)(K:c6→Hp→Prop):Prop:=
 Ct pG 43 [(Value.agg (u7 x0).toArray)] H [] (fun v H' Fo=>∃(r0:c6),v=(A8 r0)∧Fo=[]∧K r0 H') noQE
def C0(x0:Sl)(H:Hp)(K:Sl→Hp→Prop):Prop:=
 Ct pG 42 [(vs x0),(fC 43)] H [] (fun v H' Fo=>∃(r0:Sl),v=(vs r0)∧Fo=[]∧K r0 H') noQE
def a4g(x0:i6)(H:Hp)(K:c6→Hp→Prop):Prop:=
 Ct pG 45 [(Value.agg (d7 x0).toArray)] H [] (fun v H' Fo=>∃(r0:c6),v=(A8 r0)∧Fo=[]∧K r0 H') noQE
def p7(x0:Sl)(H:Hp)(K:Sl→Hp→Prop):Prop:=
 Ct pG 44 [(vs x0),(fC 45)] H [] (fun v H' Fo=>∃(r0:Sl),v=(vs r0)∧Fo=[]∧K r0 H') noQE
def K9(x1:Int)(H:Hp)(K:(List c6)→Hp→Prop):Prop:=
 Ct pG 64 [(nS),(vi x1)] H [] (fun v H' Fo=>∃(r0:(List c6))(sr0:Sl)(Fr0:Frag),v=(vs sr0)∧Fo=[Fr0]∧RowL 92 1 l7 sr0 r0 Fr0∧K r0 H') noQE
def t7(x0:Sl)(H:Hp)(K:Sl→Hp→Prop):Prop:=
 Ct pG 41 [(vs x0)] H [] (fun v H' Fo=>∃(r0:Sl),v=(vs r0)∧Fo=[]∧K r0 H') noQE
def a3B(x0:l9)(H:Hp)(K:f7→Hp→Prop):Prop:=
 Ct pG 20 [(Value.agg (o8 x0).toArray)] H [] (fun v H' Fo=>∃(r0:f7)(gr0:Nat),v=(Value.pointer (some ⟨gr0,0,none⟩))∧Fo=[bx gr0 65 (a6J r0)]∧K r0 H') noQE
def a2E(x0:l9)(H:Hp)(K:Int→Hp→Prop):Prop:=
 Ct pG 8 [(Value.agg (o8 x0).toArray)] H [] (fun v H' Fo=>∃(r0:Int),v=(vi r0)∧Fo=[]∧K r0 H') noQE
def a2k(x0:l9)(H:Hp)(K:ByteArray→Int→Hp→Prop):Prop:=
 Ct pG 5 [(Value.agg (o8 x0).toArray)] H [] (fun v H' Fo=>∃(r0:ByteArray)(r1:Int),v=(Value.tuple #[(Value.string r0),(vi r1)])∧Fo=[]∧K r0 r1 H') noQE
def m0(x0:d4)(x1:Int)(x2:ByteArray)(H:Hp)(K:d4→Hp→Prop):Prop:=
 ∀(g0:Nat),Ct pG 15 [(Value.pointer (some ⟨g0,0,none⟩)),(vi x1),(Value.string x2)] H [bx g0 57 [(Value.string x0.fs)]] (fun v H' Fo=>∃(y0:d4),v=(Value.tuple #[])∧Fo=[bx g0 57 [(Value.string y0.fs)]]∧K y0 H') noQE
def a0h(x0:Int)(H:Hp)(K:ByteArray→Hp→Prop):Prop:=
 Ct pG 16 [(vi x0)] H [] (fun v H' Fo=>∃(r0:ByteArray),v=(Value.string r0)∧Fo=[]∧K r0 H') noQE
def E3(x0:d8)(H:Hp)(K:Int→Hp→Prop):Prop:=
 Ct pG 57 [(Value.agg (c7 x0).toArray)] H [] (fun v H' Fo=>∃(r0:Int),v=(vi r0)∧Fo=[]∧K r0 H') noQE
def B1(x0:ByteArray)(x1:Bool)(x2:ByteArray)(x3:ByteArray)(H:Hp)(K:ByteArray→Hp→Prop):Prop:=
 Ct pG 56 [(Value.string x0),(vB x1),(Value.string x2),(Value.string x3)] H [] (fun v H' Fo=>∃(r0:ByteArray),v=(Value.string r0)∧Fo=[]∧K r0 H') noQE
def o9(x0:d8)(H:Hp)(K:ByteArray→Hp→Prop):Prop:=
 Ct pG 34 [(Value.agg (c7 x0).toArray)] H [] (fun v H' Fo=>∃(r0:ByteArray),v=(Value.string r0)∧Fo=[]∧K r0 H') noQE
def G2(x0:f9)(H:Hp)(K:Int→Hp→Prop):Prop:=
 Ct pG 59 [(Value.agg (c9 x0).toArray)] H [] (fun v H' Fo=>∃(r0:Int),v=(vi r0)∧Fo=[]∧K r0 H') noQE
def a0W(x0:Int)(H:Hp)(K:ByteArray→Hp→Prop):Prop:=
 Ct pG 58 [(vi x0)] H [] (fun v H' Fo=>∃(r0:ByteArray),v=(Value.string r0)∧Fo=[]∧K r0 H') noQE
def u0(x0:f9)(H:Hp)(K:ByteArray→Hp→Prop):Prop:=
 Ct pG 35 [(Value.agg (c9 x0).toArray)] H [] (fun v H' Fo=>∃(r0:ByteArray),v=(Value.string r0)∧Fo=[]∧K r0 H') noQE
def u9(x0:d4)(x1:Sl)(x2:Int)(H:Hp)(K:d4→Hp→Prop):Prop:=
 ∀(g0:Nat),Ct pG 17 [(Value.pointer (some ⟨g0,0,none⟩)),(vs x1),(vi x2)] H [bx g0 57 [(Value.string x0.fs)]] (fun v H' Fo=>∃(y0:d4),v=(Value.tuple #[])∧Fo=[bx g0 57 [(Value.string y0.fs)]]∧K y0 H') noQE
def W2(x0:a8)(H:Hp)(K:Int→Hp→Prop):Prop:=
 Ct pG 33 [(Value.agg (f8 x0).toArray)] H [] (fun v H' Fo=>∃(r0:Int),v=(vi r0)∧Fo=[]∧K r0 H') noQE
def a0X(x0:ByteArray)(x1:Int)(H:Hp)(K:Int→Int→Bool→Hp→Prop):Prop:=
 Ct pG 78 [(Value.string x0),(vi x1)] H [] (fun v H' Fo=>∃(r0:Int)(r1:Int)(r2:Bool),v=(Value.tuple #[(vi r0),(vi r1),(vB r2)])∧Fo=[]∧K r0 r1 r2 H') noQE
def A7(x0:Int)(x1:Int)(x2:Int)(H:Hp)(K:Bool→Hp→Prop):Prop:=
 Ct pG 94 [(vi x0),(vi x1),(vi x2)] H [] (fun v H' Fo=>∃(r0:Bool),v=(vB r0)∧Fo=[]∧K r0 H') noQE
def a0B(x0:Int)(H:Hp)(K:Int→Hp→Prop):Prop:=
 Ct pG 79 [(vi x0)] H [] (fun v H' Fo=>∃(r0:Int),v=(vi r0)∧Fo=[]∧K r0 H') noQE
def a0Y(x0:ByteArray)(H:Hp)(K:Bool→Hp→Prop):Prop:=
 Ct pG 77 [(Value.string x0)] H [] (fun v H' Fo=>∃(r0:Bool),v=(vB r0)∧Fo=[]∧K r0 H') noQE
def U9(x0:ByteArray)(H:Hp)(K:Bool→Hp→Prop):Prop:=
 Ct pG 53 [(Value.string x0)] H [] (fun v H' Fo=>∃(r0:Bool),v=(vB r0)∧Fo=[]∧K r0 H') noQE
def J8(x0:a8)(x1:ByteArray)(x2:Bool)(H:Hp)(K:a8→Hp→Prop):Prop:=
 ∀(g0:Nat),Ct pG 31 [(Value.pointer (some ⟨g0,0,none⟩)),(Value.string x1),(vB x2)] H [bx g0 79 (f8 x0)] (fun v H' Fo=>∃(y0:a8),v=(Value.tuple #[])∧Fo=[bx g0 79 (f8 y0)]∧K y0 H') noQE
def J9(x0:a8)(x1:d8)(H:Hp)(K:a8→Hp→Prop):Prop:=
 ∀(g0:Nat),Ct pG 55 [(Value.pointer (some ⟨g0,0,none⟩)),(Value.agg (c7 x1).toArray)] H [bx g0 79 (f8 x0)] (fun v H' Fo=>∃(y0:a8),v=(Value.tuple #[])∧Fo=[bx g0 79 (f8 y0)]∧K y0 H') noQE
def N9(x0:a8)(x1:f9)(H:Hp)(K:a8→Hp→Prop):Prop:=
 ∀(g0:Nat),Ct pG 54 [(Value.pointer (some ⟨g0,0,none⟩)),(Value.agg (c9 x1).toArray)] H [bx g0 79 (f8 x0)] (fun v H' Fo=>∃(y0:a8),v=(Value.tuple #[])∧Fo=[bx g0 79 (f8 y0)]∧K y0 H') noQE
def K0(x0:a8)(x1:i6)(H:Hp)(K:a8→Hp→Prop):Prop:=
 ∀(g0:Nat),Ct pG 32 [(Value.pointer (some ⟨g0,0,none⟩)),(Value.agg (d7 x1).toArray)] H [bx g0 79 (f8 x0)] (fun v H' Fo=>∃(y0:a8),v=(Value.tuple #[])∧Fo=[bx g0 79 (f8 y0)]∧K y0 H') noQE
def E1(x0:b7)(x1:Int)(H:Hp)(K:Bool→b7→Hp→Prop):Prop:=
 ∀(g0:Nat),Ct pG 51 [(Value.pointer (some ⟨g0,0,none⟩)),(vi x1)] H [bx g0 76 (g5 x0)] (fun v H' Fo=>∃(r0:Bool)(y0:b7),v=(vB r0)∧Fo=[bx g0 76 (g5 y0)]∧K r0 y0 H') noQE
def K1(x0:b7)(x1:d8)(x2:Int)(H:Hp)(K:b7→Hp→Prop):Prop:=
 ∀(g0:Nat),Ct pG 76 [(Value.pointer (some ⟨g0,0,none⟩)),(Value.agg (c7 x1).toArray),(vi x2)] H [bx g0 76 (g5 x0)] (fun v H' Fo=>∃(y0:b7),v=(Value.tuple #[])∧Fo=[bx g0 76 (g5 y0)]∧K y0 H') noQE
def O0(x0:b7)(x1:f9)(x2:Int)(H:Hp)(K:b7→Hp→Prop):Prop:=
 ∀(g0:Nat),Ct pG 75 [(Value.pointer (some ⟨g0,0,none⟩)),(Value.agg (c9 x1).toArray),(vi x2)] H [bx g0 76 (g5 x0)] (fun v H' Fo=>∃(y0:b7),v=(Value.tuple #[])∧Fo=[bx g0 76 (g5 y0)]∧K y0 H') noQE
def K2(x0:b7)(x1:i6)(x2:Int)(H:Hp)(K:b7→Hp→Prop):Prop:=
 ∀(g0:Nat),Ct pG 52 [(Value.pointer (some ⟨g0,0,none⟩)),(Value.agg (d7 x1).toArray),(vi x2)] H [bx g0 76 (g5 x0)] (fun v H' Fo=>∃(y0:b7),v=(Value.tuple #[])∧Fo=[bx g0 76 (g5 y0)]∧K y0 H') noQE
def a0i(x0:l9)(H:Hp)(K:b7→Hp→Prop):Prop:=
 Ct pG 30 [(Value.agg (o8 x0).toArray)] H [] (fun v H' Fo=>∃(r0:b7),v=(Value.agg (g5 r0).toArray)∧Fo=[]∧K r0 H') noQE
def a0C(x0:l9)(H:Hp)(K:Int→Hp→Prop):Prop:=
 Ct pG 14 [(Value.agg (o8 x0).toArray)] H [] (fun v H' Fo=>∃(r0:Int),v=(vi r0)∧Fo=[]∧K r0 H') noQE
def a0D(x0:l9)(H:Hp)(K:ByteArray→Int→Hp→Prop):Prop:=
 Ct pG 6 [(Value.agg (o8 x0).toArray)] H [] (fun v H' Fo=>∃(r0:ByteArray)(r1:Int),v=(Value.tuple #[(Value.string r0),(vi r1)])∧Fo=[]∧K r0 r1 H') noQE
def V0(x0:l9)(H:Hp)(K:Bool→Hp→Prop):Prop:=
 Ct pG 3 [(Value.agg (o8 x0).toArray)] H [] (fun v H' Fo=>∃(r0:Bool),v=(vB r0)∧Fo=[]∧K r0 H') noQE
def a4J(x0:c5)(f:(List Int))(x1:ByteArray)(x2:f9)(x3:ByteArray)(H:Hp)(K:c5→(List Int)→Hp→Prop):Prop:=
 ∀(g0:Nat),∀(a:Sl)(b:Frag),RowL 5 1 k9 a f b→Ct pG 27 [(Value.pointer (some ⟨g0,0,none⟩)),(Value.string x1),(Value.agg (c9 x2).toArray),(Value.string x3)] H [bx g0 44 (d5 g0 x0 a),b] (fun v H' Fo=>∃(y0:c5)(c:(List Int))(d:Sl)(e:Frag),v=(Value.tuple #[])∧Fo=[bx g0 44 (d5 g0 y0 d),e]∧RowL 5 1 k9 d c e∧K y0 c H') noQE
def Q0(x0:c5)(f:(List Int))(x1:Sl)(H:Hp)(K:c5→(List Int)→Hp→Prop):Prop:=
 ∀(g0:Nat),∀(a:Sl)(b:Frag),RowL 5 1 k9 a f b→Ct pG 28 [(Value.pointer (some ⟨g0,0,none⟩)),(vs x1)] H [bx g0 44 (d5 g0 x0 a),b] (fun v H' Fo=>∃(y0:c5)(c:(List Int))(d:Sl)(e:Frag),v=(Value.tuple #[])∧Fo=[bx g0 44 (d5 g0 y0 d),e]∧RowL 5 1 k9 d c e∧K y0 c H') noQE
def a8K(x0:ByteArray)(x1:Int)(H:Hp)(K:ByteArray→Hp→Prop):Prop:=
 Ct pG 46 [(Value.string x0),(vi x1)] H [] (fun v H' Fo=>∃(r0:ByteArray),v=(Value.string r0)∧Fo=[]∧K r0 H') noQE
def R3(x0:c5)(f:(List Int))(x1:f9)(x2:Int)(H:Hp)(K:c5→(List Int)→Hp→Prop):Prop:=
 ∀(g0:Nat),∀(a:Sl)(b:Frag),RowL 5 1 k9 a f b→Ct pG 74 [(Value.pointer (some ⟨g0,0,none⟩)),(Value.agg (c9 x1).toArray),(vi x2)] H [bx g0 44 (d5 g0 x0 a),b] (fun v H' Fo=>∃(y0:c5)(c:(List Int))(d:Sl)(e:Frag),v=(Value.tuple #[])∧Fo=[bx g0 44 (d5 g0 y0 d),e]∧RowL 5 1 k9 d c e∧K y0 c H') noQE
def V1(x0:Int)(H:Hp)(K:Int→Hp→Prop):Prop:=
 Ct pG 73 [(vi x0)] H [] (fun v H' Fo=>∃(r0:Int),v=(vi r0)∧Fo=[]∧K r0 H') noQE
def H8(x0:c5)(f:(List Int))(x1:f9)(H:Hp)(K:c5→(List Int)→Hp→Prop):Prop:=
 ∀(g0:Nat),∀(a:Sl)(b:Frag),RowL 5 1 k9 a f b→Ct pG 50 [(Value.pointer (some ⟨g0,0,none⟩)),(Value.agg (c9 x1).toArray)] H [bx g0 44 (d5 g0 x0 a),b] (fun v H' Fo=>∃(y0:c5)(c:(List Int))(d:Sl)(e:Frag),v=(Value.tuple #[])∧Fo=[bx g0 44 (d5 g0 y0 d),e]∧RowL 5 1 k9 d c e∧K y0 c H') noQE
def a1s(x0:B6)(H:Hp)(K:Bool→Hp→Prop):Prop:=
 Ct pG 124 [(Value.agg (c7 x0.m8).toArray)] H [] (fun v H' Fo=>∃(r0:Bool),v=(vB r0)∧Fo=[]∧K r0 H') noQE
def a4h(x0:d8)(H:Hp)(K:c6→Hp→Prop):Prop:=
 Ct pG 127 [(Value.agg (c7 x0).toArray)] H [] (fun v H' Fo=>∃(r0:c6),v=(A8 r0)∧Fo=[]∧K r0 H') noQE
def p8(x0:Sl)(H:Hp)(K:Sl→Hp→Prop):Prop:=
 Ct pG 126 [(vs x0),(fC 127)] H [] (fun v H' Fo=>∃(r0:Sl),v=(vs r0)∧Fo=[]∧K r0 H') noQE
def a2R(x0:B6)(H:Hp)(K:Sl→Hp→Prop):Prop:=
 Ct pG 125 [(Value.agg (c7 x0.m8).toArray)] H [] (fun v H' Fo=>∃(r0:Sl),v=(vs r0)∧Fo=[]∧K r0 H') noQE
def a3x(x0:O7)(H:Hp)(K:Bool→Hp→Prop):Prop:=
 Ct pG 128 [(Value.agg (u7 x0.T7).toArray)] H [] (fun v H' Fo=>∃(r0:Bool),v=(vB r0)∧Fo=[]∧K r0 H') noQE
def a2S(x0:O7)(H:Hp)(K:Sl→Hp→Prop):Prop:=
 Ct pG 129 [(Value.agg (u7 x0.T7).toArray)] H [] (fun v H' Fo=>∃(r0:Sl),v=(vs r0)∧Fo=[]∧K r0 H') noQE
def a1t(x0:L4)(H:Hp)(K:Bool→Hp→Prop):Prop:=
 Ct pG 130 [(Value.agg (d7 x0.d6).toArray)] H [] (fun v H' Fo=>∃(r0:Bool),v=(vB r0)∧Fo=[]∧K r0 H') noQE
def a4i(x0:f9)(H:Hp)(K:c6→Hp→Prop):Prop:=
 Ct pG 133 [(Value.agg (c9 x0).toArray)] H [] (fun v H' Fo=>∃(r0:c6),v=(A8 r0)∧Fo=[]∧K r0 H') noQE
def u6(x0:Sl)(H:Hp)(K:Sl→Hp→Prop):Prop:=
 Ct pG 132 [(vs x0),(fC 133)] H [] (fun v H' Fo=>∃(r0:Sl),v=(vs r0)∧Fo=[]∧K r0 H') noQE
def a2T(x0:L4)(H:Hp)(K:Sl→Hp→Prop):Prop:=
 Ct pG 131 [(Value.agg (d7 x0.d6).toArray)] H [] (fun v H' Fo=>∃(r0:Sl),v=(vs r0)∧Fo=[]∧K r0 H') noQE
def a1u(x0:L5)(H:Hp)(K:Bool→Hp→Prop):Prop:=
 Ct pG 135 [(Value.agg (c9 x0.k6).toArray)] H [] (fun v H' Fo=>∃(r0:Bool),v=(vB r0)∧Fo=[]∧K r0 H') noQE
def a2U(x0:L5)(H:Hp)(K:Sl→Hp→Prop):Prop:=
 Ct pG 136 [(Value.agg (c9 x0.k6).toArray)] H [] (fun v H' Fo=>∃(r0:Sl),v=(vs r0)∧Fo=[]∧K r0 H') noQE
def a2l(x:c6)(H:Hp)(K:Bool→Hp→Prop):Prop:=match x with
 | .nil=>False
 | .v1 y=>a1s y H K
 | .D5 y=>a3x y H K
 | .B4 y=>a1t y H K
 | .E5 y=>a1u y H K
def a1Z(x:c6)(H:Hp)(K:Sl→Hp→Prop):Prop:=match x with
 | .nil=>False
 | .v1 y=>a2R y H K
 | .D5 y=>a2S y H K
 | .B4 y=>a2T y H K
 | .E5 y=>a2U y H K
theorem a6L {E : Pan} {w0 w : World} {ps : Nat → Prop} {H0 H : Hp} {Fr : List Frag} {K : RT} {Kc : Bool → Hp → Prop} {x : c6} (I : Inv w0 ps H0 H Fr w) (h : a2l x H Kc) (hq : ∀ (r0 : Bool) (H' : Hp) (w' : World), Inv w0 ps H0 H' Fr w' → Hle H H' → (∀ i, i < w.heap.size → ¬ inF [] i → w'.heap[i]? = w.heap[i]?) → Kc r0 H' → K (vB r0) w') : oP E (xInvoke (A8 x) "gnomon/tree.form" []) w K := by
 cases x with
 | nil=>exact h.elim
 | v1 y=>exact a2h (f:=124) (args:=[(Value.agg (c7 y.m8).toArray)].toArray) (by kernel_rfl) (a5m (Fi:=[]) I h (fun v H' Fo w' I' l hk hq'=>by obtain ⟨r0,rfl,rfl,hK⟩:=hq';exact hq r0 H' w' I' l hk hK) (fun _ _ _ _ _ q=>q.elim))
 | D5 y=>exact a2h (f:=128) (args:=[(Value.agg (u7 y.T7).toArray)].toArray) (by kernel_rfl) (a5m (Fi:=[]) I h (fun v H' Fo w' I' l hk hq'=>by obtain ⟨r0,rfl,rfl,hK⟩:=hq';exact hq r0 H' w' I' l hk hK) (fun _ _ _ _ _ q=>q.elim))
 | B4 y=>exact a2h (f:=130) (args:=[(Value.agg (d7 y.d6).toArray)].toArray) (by kernel_rfl) (a5m (Fi:=[]) I h (fun v H' Fo w' I' l hk hq'=>by obtain ⟨r0,rfl,rfl,hK⟩:=hq';exact hq r0 H' w' I' l hk hK) (fun _ _ _ _ _ q=>q.elim))
 | E5 y=>exact a2h (f:=135) (args:=[(Value.agg (c9 y.k6).toArray)].toArray) (by kernel_rfl) (a5m (Fi:=[]) I h (fun v H' Fo w' I' l hk hq'=>by obtain ⟨r0,rfl,rfl,hK⟩:=hq';exact hq r0 H' w' I' l hk hK) (fun _ _ _ _ _ q=>q.elim))
theorem a6y {E : Pan} {w0 w : World} {ps : Nat → Prop} {H0 H : Hp} {Fr : List Frag} {K : RT} {Kc : Sl → Hp → Prop} {x : c6} (I : Inv w0 ps H0 H Fr w) (h : a1Z x H Kc) (hq : ∀ (r0 : Sl) (H' : Hp) (w' : World), Inv w0 ps H0 H' Fr w' → Hle H H' → (∀ i, i < w.heap.size → ¬ inF [] i → w'.heap[i]? = w.heap[i]?) → Kc r0 H' → K (vs r0) w') : oP E (xInvoke (A8 x) "gnomon/tree.parts" []) w K := by
 cases x with
 | nil=>exact h.elim
 | v1 y=>exact a2h (f:=125) (args:=[(Value.agg (c7 y.m8).toArray)].toArray) (by kernel_rfl) (a5m (Fi:=[]) I h (fun v H' Fo w' I' l hk hq'=>by obtain ⟨r0,rfl,rfl,hK⟩:=hq';exact hq r0 H' w' I' l hk hK) (fun _ _ _ _ _ q=>q.elim))
 | D5 y=>exact a2h (f:=129) (args:=[(Value.agg (u7 y.T7).toArray)].toArray) (by kernel_rfl) (a5m (Fi:=[]) I h (fun v H' Fo w' I' l hk hq'=>by obtain ⟨r0,rfl,rfl,hK⟩:=hq';exact hq r0 H' w' I' l hk hK) (fun _ _ _ _ _ q=>q.elim))
 | B4 y=>exact a2h (f:=131) (args:=[(Value.agg (d7 y.d6).toArray)].toArray) (by kernel_rfl) (a5m (Fi:=[]) I h (fun v H' Fo w' I' l hk hq'=>by obtain ⟨r0,rfl,rfl,hK⟩:=hq';exact hq r0 H' w' I' l hk hK) (fun _ _ _ _ _ q=>q.elim))
 | E5 y=>exact a2h (f:=136) (args:=[(Value.agg (c9 y.k6).toArray)].toArray) (by kernel_rfl) (a5m (Fi:=[]) I h (fun v H' Fo w' I' l hk hq'=>by obtain ⟨r0,rfl,rfl,hK⟩:=hq';exact hq r0 H' w' I' l hk hK) (fun _ _ _ _ _ q=>q.elim))
end Go.Proofs.YtnhdnncbjddmjaaGreatDoor
