/- Contracts of the program's functions; printed by lift.py off the code. -/
import Derived.Test.YtoflkliecagjcaaGreatDooryBU1
import Derived.Test.YtoflkliecagjcaaGreatDooryBG1a
import Derived.Test.YtoflkliecagjcaaGreatDooryBG1b
namespace Go.Proofs.YtoflkliecagjcaaGreatDoor
open Go.RowKit
set_option maxRecDepth 100000
set_option maxHeartbeats 2000000
def F0(x0:ByteArray)(H:Hp)(K:g9→c8→Int→Hp→Prop):Prop:=
 Ct pG 15 [(Value.string x0),(fC 16),(fC 9)] H [] (fun v H' Fo=>∃(r0:g9)(r1:c8)(r2:Int),v=(Value.tuple #[(Value.agg (o7 r0).toArray),(Value.agg (m8 r1).toArray),(vi r2)])∧Fo=[]∧K r0 r1 r2 H') noQE
def X2(x0:ByteArray)(H:Hp)(K:g9→c8→Int→Hp→Prop):Prop:=
 Ct pG 6 [(Value.string x0)] H [] (fun v H' Fo=>∃(r0:g9)(r1:c8)(r2:Int),v=(Value.tuple #[(Value.agg (o7 r0).toArray),(Value.agg (m8 r1).toArray),(vi r2)])∧Fo=[]∧K r0 r1 r2 H') noQE
def a3J(x0:c7)(c:(List Int))(H:Hp)(K:Int→Hp→Prop):Prop:=
 ∀(g0:Nat),∀(a:Sl)(b:Frag),RowL 5 1 t8 a c b→Ct pG 32 [(Value.pointer (some ⟨g0,0,none⟩))] H [bx g0 47 (i8 g0 x0 a),b] (fun v H' Fo=>∃(r0:Int),v=(vi r0)∧Fo=[bx g0 47 (i8 g0 x0 a),b]∧K r0 H') noQE
def Z1(x0:c7)(c:(List Int))(H:Hp)(K:Bool→Hp→Prop):Prop:=
 ∀(g0:Nat),∀(a:Sl)(b:Frag),RowL 5 1 t8 a c b→Ct pG 13 [(Value.pointer (some ⟨g0,0,none⟩))] H [bx g0 47 (i8 g0 x0 a),b] (fun v H' Fo=>∃(r0:Bool),v=(vB r0)∧Fo=[bx g0 47 (i8 g0 x0 a),b]∧K r0 H') noQE
def a2y(x0:c7)(f:(List Int))(H:Hp)(K:ByteArray→c7→(List Int)→Hp→Prop):Prop:=
 ∀(g0:Nat),∀(a:Sl)(b:Frag),RowL 5 1 t8 a f b→Ct pG 14 [(Value.pointer (some ⟨g0,0,none⟩))] H [bx g0 47 (i8 g0 x0 a),b] (fun v H' Fo=>∃(r0:ByteArray)(y0:c7)(c:(List Int))(d:Sl)(e:Frag),v=(Value.string r0)∧Fo=[bx g0 47 (i8 g0 y0 d),e]∧True∧K r0 y0 c H') noQE
def Z2(x0:c7)(f:(List Int))(x1:d9)(H:Hp)(K:c7→(List Int)→Hp→Prop):Prop:=
 ∀(g0:Nat),∀(a:Sl)(b:Frag),RowL 5 1 t8 a f b→Ct pG 12 [(Value.pointer (some ⟨g0,0,none⟩)),(Value.agg (k7 x1).toArray)] H [bx g0 47 (i8 g0 x0 a),b] (fun v H' Fo=>∃(y0:c7)(c:(List Int))(d:Sl)(e:Frag),v=(Value.tuple #[])∧Fo=[bx g0 47 (i8 g0 y0 d),e]∧RowL 5 1 t8 d c e∧K y0 c H') noQE
def a1v(x0:c7)(f:(List Int))(x1:Sl)(H:Hp)(K:c7→(List Int)→Hp→Prop):Prop:=
 ∀(g0:Nat),∀(a:Sl)(b:Frag),RowL 5 1 t8 a f b→Ct pG 10 [(Value.pointer (some ⟨g0,0,none⟩)),(vs x1)] H [bx g0 47 (i8 g0 x0 a),b] (fun v H' Fo=>∃(y0:c7)(c:(List Int))(d:Sl)(e:Frag),v=(Value.tuple #[])∧Fo=[bx g0 47 (i8 g0 y0 d),e]∧RowL 5 1 t8 d c e∧K y0 c H') noQE
def b0B(x0:Int)(H:Hp)(K:ByteArray→Hp→Prop):Prop:=
 Ct pG 11 [(vi x0)] H [] (fun v H' Fo=>∃(r0:ByteArray),v=(Value.string r0)∧Fo=[]∧K r0 H') noQE
def a6H(x0:i6)(H:Hp)(K:d8→Hp→Prop):Prop:=
 Ct pG 53 [(Value.agg (u1 x0).toArray)] H [] (fun v H' Fo=>∃(r0:d8),v=(G6 r0)∧Fo=[]∧K r0 H') noQE
def L2(x0:Sl)(H:Hp)(K:Sl→Hp→Prop):Prop:=
 Ct pG 52 [(vs x0),(fC 53)] H [] (fun v H' Fo=>∃(r0:Sl),v=(vs r0)∧Fo=[]∧K r0 H') noQE
def a6I(x0:d9)(H:Hp)(K:d8→Hp→Prop):Prop:=
 Ct pG 55 [(Value.agg (k7 x0).toArray)] H [] (fun v H' Fo=>∃(r0:d8),v=(G6 r0)∧Fo=[]∧K r0 H') noQE
def B1(x0:Sl)(H:Hp)(K:Sl→Hp→Prop):Prop:=
 Ct pG 54 [(vs x0),(fC 55)] H [] (fun v H' Fo=>∃(r0:Sl),v=(vs r0)∧Fo=[]∧K r0 H') noQE
def S7(x1:Int)(H:Hp)(K:(List d8)→Hp→Prop):Prop:=
 Ct pG 78 [(nS),(vi x1)] H [] (fun v H' Fo=>∃(r0:(List d8))(sr0:Sl)(Fr0:Frag),v=(vs sr0)∧Fo=[Fr0]∧RowL 107 1 s8 sr0 r0 Fr0∧K r0 H') noQE
def D1(x0:Sl)(H:Hp)(K:Sl→Hp→Prop):Prop:=
 Ct pG 51 [(vs x0)] H [] (fun v H' Fo=>∃(r0:Sl),v=(vs r0)∧Fo=[]∧K r0 H') noQE
def a1w(x0:d8)(H:Hp)(K:ByteArray→Bool→Hp→Prop):Prop:=
 Ct pG 107 [(G6 x0)] H [] (fun v H' Fo=>∃(r0:ByteArray)(r1:Bool),v=(Value.tuple #[(Value.string r0),(vB r1)])∧Fo=[]∧K r0 r1 H') noQE
def M9(x0:Int)(x1:Int)(x2:Int)(H:Hp)(K:Bool→Hp→Prop):Prop:=
 ∀(g2:Nat),Ct pG 124 [(Value.int .i32 x0),(Value.int .i32 x1),(Value.pointer (some ⟨g2,0,none⟩))] H [bx g2 21 [(Value.int .i32 x2)]] (fun v H' Fo=>∃(r0:Bool),v=(vB r0)∧Fo=[bx g2 21 [(Value.int .i32 x2)]]∧K r0 H') noQE
def R8(x0:Int)(H:Hp)(K:Int→Hp→Prop):Prop:=
 Ct pG 93 [(Value.int .i32 x0)] H [] (fun v H' Fo=>∃(r0:Int),v=(vi r0)∧Fo=[]∧K r0 H') noQE
def a2J(x0:Int)(H:Hp)(K:Bool→Hp→Prop):Prop:=
 Ct pG 126 [(Value.int .i32 x0)] H [] (fun v H' Fo=>∃(r0:Bool),v=(vB r0)∧Fo=[]∧K r0 H') noQE
def a4o(x0:ByteArray)(H:Hp)(K:Bool→Hp→Prop):Prop:=
 Ct pG 135 [(Value.string x0)] H [] (fun v H' Fo=>∃(r0:Bool),v=(vB r0)∧Fo=[]∧K r0 H') noQE
def Z8(x0:ByteArray)(H:Hp)(K:Int→Hp→Prop):Prop:=
 Ct pG 140 [(Value.string x0)] H [] (fun v H' Fo=>∃(r0:Int),v=(vi r0)∧Fo=[]∧K r0 H') noQE
def a3C(x0:ByteArray)(H:Hp)(K:Bool→Hp→Prop):Prop:=
 Ct pG 128 [(Value.string x0)] H [] (fun v H' Fo=>∃(r0:Bool),v=(vB r0)∧Fo=[]∧K r0 H') noQE
def a3D(x0:ByteArray)(H:Hp)(K:Bool→Hp→Prop):Prop:=
 Ct pG 127 [(Value.string x0)] H [] (fun v H' Fo=>∃(r0:Bool),v=(vB r0)∧Fo=[]∧K r0 H') noQE
def a3E(x0:ByteArray)(H:Hp)(K:Bool→Hp→Prop):Prop:=
 Ct pG 108 [(Value.string x0)] H [] (fun v H' Fo=>∃(r0:Bool),v=(vB r0)∧Fo=[]∧K r0 H') noQE
def a0V(x0:(List ByteArray))(x1:ByteArray)(H:Hp)(K:Int→Hp→Prop):Prop:=
 ∀(sx0:Sl)(Fx0:Frag),RowL 9 1 q6 sx0 x0 Fx0→Ct pG 136 [(vs sx0),(Value.string x1)] H [Fx0] (fun v H' Fo=>∃(r0:Int),v=(vi r0)∧Fo=[Fx0]∧K r0 H') noQE
def U7(x0:(List ByteArray))(x1:ByteArray)(H:Hp)(K:Bool→Hp→Prop):Prop:=
 ∀(sx0:Sl)(Fx0:Frag),RowL 9 1 q6 sx0 x0 Fx0→Ct pG 109 [(vs sx0),(Value.string x1)] H [Fx0] (fun v H' Fo=>∃(r0:Bool),v=(vB r0)∧Fo=[Fx0]∧K r0 H') noQE
def a1O(x0:m7)(f:(List ByteArray))(x1:d8)(x2:Int)(H:Hp)(K:Bool→m7→(List ByteArray)→Hp→Prop):Prop:=
 ∀(g0:Nat),∀(a:Sl)(b:Frag),RowL 9 1 q6 a f b→Ct pG 75 [(Value.pointer (some ⟨g0,0,none⟩)),(G6 x1),(vi x2)] H [bx g0 69 (a0U x0 a),b] (fun v H' Fo=>∃(r0:Bool)(y0:m7)(c:(List ByteArray))(d:Sl)(e:Frag),v=(vB r0)∧Fo=[bx g0 69 (a0U y0 d),e]∧RowL 9 1 q6 d c e∧K r0 y0 c H') noQE
def Y4(x0:Sl)(x1:Int)(x2:m7)(f:(List ByteArray))(H:Hp)(K:Bool→m7→(List ByteArray)→Hp→Prop):Prop:=
 ∀(g2 g2b g3:Nat),∀(a:Sl)(b:Frag),RowL 9 1 q6 a f b→Ct pG 74 [(vs x0),(vi x1),(Value.pointer (some ⟨g2,0,none⟩)),(Value.pointer (some ⟨g3,0,none⟩))] H [bx g2 70 [(Value.pointer (some ⟨g2b,0,none⟩))],bx g2b 69 (a0U x2 a),b,bx g3 135 [(Value.func (.func 74) #[] #[(Value.pointer (some ⟨g2,0,none⟩)),(Value.pointer (some ⟨g3,0,none⟩))])]] (fun v H' Fo=>∃(r0:Bool)(y0:m7)(c:(List ByteArray))(d:Sl)(e:Frag),v=(vB r0)∧Fo=[bx g2 70 [(Value.pointer (some ⟨g2b,0,none⟩))],bx g2b 69 (a0U y0 d),e,bx g3 135 [(Value.func (.func 74) #[] #[(Value.pointer (some ⟨g2,0,none⟩)),(Value.pointer (some ⟨g3,0,none⟩))])]]∧RowL 9 1 q6 d c e∧K r0 y0 c H') noQE
def a2e(x0:Sl)(H:Hp)(K:m7→Hp→Prop):Prop:=
 Ct pG 46 [(vs x0)] H [] (fun v H' Fo=>∃(r0:m7)(gr0:Nat),v=(Value.pointer (some ⟨gr0,0,none⟩))∧Fo=[bx gr0 69 (b0A r0)]∧K r0 H') noQE
def a5J(x0:g9)(H:Hp)(K:m7→Hp→Prop):Prop:=
 Ct pG 23 [(Value.agg (o7 x0).toArray)] H [] (fun v H' Fo=>∃(r0:m7)(gr0:Nat),v=(Value.pointer (some ⟨gr0,0,none⟩))∧Fo=[bx gr0 69 (b0A r0)]∧K r0 H') noQE
def a0M(x0:g9)(H:Hp)(K:Int→Hp→Prop):Prop:=
 Ct pG 9 [(Value.agg (o7 x0).toArray)] H [] (fun v H' Fo=>∃(r0:Int),v=(vi r0)∧Fo=[]∧K r0 H') noQE
def T2(x0:g9)(H:Hp)(K:ByteArray→Int→Hp→Prop):Prop:=
 Ct pG 5 [(Value.agg (o7 x0).toArray)] H [] (fun v H' Fo=>∃(r0:ByteArray)(r1:Int),v=(Value.tuple #[(Value.string r0),(vi r1)])∧Fo=[]∧K r0 r1 H') noQE
def a1G(x0:g9)(H:Hp)(K:Bool→Hp→Prop):Prop:=
 Ct pG 17 [(Value.agg (o7 x0).toArray)] H [] (fun v H' Fo=>∃(r0:Bool),v=(vB r0)∧Fo=[]∧K r0 H') noQE
def L0(x0:Sl)(x1:Sl)(H:Hp)(K:Bool→Hp→Prop):Prop:=
 Ct pG 18 [(vs x0),(vs x1)] H [] (fun v H' Fo=>∃(r0:Bool),v=(vB r0)∧Fo=[]∧K r0 H') noQE
def a1k(x0:f8)(x1:f8)(H:Hp)(K:Bool→Hp→Prop):Prop:=
 Ct pG 43 [(Value.agg (f7 x0).toArray),(Value.agg (f7 x1).toArray)] H [] (fun v H' Fo=>∃(r0:Bool),v=(vB r0)∧Fo=[]∧K r0 H') noQE
def m9(x0:Sl)(x1:Sl)(H:Hp)(K:Bool→Hp→Prop):Prop:=
 Ct pG 42 [(vs x0),(vs x1),(fC 43)] H [] (fun v H' Fo=>∃(r0:Bool),v=(vB r0)∧Fo=[]∧K r0 H') noQE
def a1l(x0:i7)(x1:i7)(H:Hp)(K:Bool→Hp→Prop):Prop:=
 Ct pG 45 [(Value.agg (g7 x0).toArray),(Value.agg (g7 x1).toArray)] H [] (fun v H' Fo=>∃(r0:Bool),v=(vB r0)∧Fo=[]∧K r0 H') noQE
def q7(x0:Sl)(x1:Sl)(H:Hp)(K:Bool→Hp→Prop):Prop:=
 Ct pG 44 [(vs x0),(vs x1),(fC 45)] H [] (fun v H' Fo=>∃(r0:Bool),v=(vB r0)∧Fo=[]∧K r0 H') noQE
def a1m(x0:d9)(x1:d9)(H:Hp)(K:Bool→Hp→Prop):Prop:=
 Ct pG 20 [(Value.agg (k7 x0).toArray),(Value.agg (k7 x1).toArray)] H [] (fun v H' Fo=>∃(r0:Bool),v=(vB r0)∧Fo=[]∧K r0 H') noQE
def l8(x0:Sl)(x1:Sl)(H:Hp)(K:Bool→Hp→Prop):Prop:=
 Ct pG 19 [(vs x0),(vs x1),(fC 20)] H [] (fun v H' Fo=>∃(r0:Bool),v=(vB r0)∧Fo=[]∧K r0 H') noQE
def a0N(x0:g9)(x1:g9)(H:Hp)(K:Bool→Hp→Prop):Prop:=
 Ct pG 7 [(Value.agg (o7 x0).toArray),(Value.agg (o7 x1).toArray)] H [] (fun v H' Fo=>∃(r0:Bool),v=(vB r0)∧Fo=[]∧K r0 H') noQE
def a4L(x0:f8)(H:Hp)(K:Int→Hp→Prop):Prop:=
 Ct pG 21 [(Value.agg (f7 x0).toArray)] H [] (fun v H' Fo=>∃(r0:Int),v=(vi r0)∧Fo=[]∧K r0 H') noQE
def a0i(x0:Int)(H:Hp)(K:Int→Hp→Prop):Prop:=
 Ct pG 47 [(vi x0)] H [] (fun v H' Fo=>∃(r0:Int),v=(vi r0)∧Fo=[]∧K r0 H') noQE
def a7g(x0:Int)(x1:Int)(H:Hp)(K:ByteArray→Hp→Prop):Prop:=
 Ct pG 48 [(vi x0),(vi x1)] H [] (fun v H' Fo=>∃(r0:ByteArray),v=(Value.string r0)∧Fo=[]∧K r0 H') noQE
def a3V(x0:c7)(f:(List Int))(H:Hp)(K:c7→(List Int)→Hp→Prop):Prop:=
 ∀(g0:Nat),∀(a:Sl)(b:Frag),RowL 5 1 t8 a f b→Ct pG 82 [(Value.pointer (some ⟨g0,0,none⟩))] H [bx g0 47 (i8 g0 x0 a),b] (fun v H' Fo=>∃(y0:c7)(c:(List Int))(d:Sl)(e:Frag),v=(Value.tuple #[])∧Fo=[bx g0 47 (i8 g0 y0 d),e]∧RowL 5 1 t8 d c e∧K y0 c H') noQE
def a0A(x0:c7)(f:(List Int))(x1:ByteArray)(H:Hp)(K:Int→Value→c7→(List Int)→Hp→Prop):Prop:=
 ∀(g0:Nat),∀(a:Sl)(b:Frag),RowL 5 1 t8 a f b→Ct pG 57 [(Value.pointer (some ⟨g0,0,none⟩)),(Value.string x1)] H [bx g0 47 (i8 g0 x0 a),b] (fun v H' Fo=>∃(r0:Int)(r1:Value)(y0:c7)(c:(List Int))(d:Sl)(e:Frag),v=(Value.tuple #[(vi r0),r1])∧Fo=[bx g0 47 (i8 g0 y0 d),e]∧RowL 5 1 t8 d c e∧K r0 r1 y0 c H') noQE
def v6(x0:c7)(f:(List Int))(x1:Sl)(H:Hp)(K:c7→(List Int)→Hp→Prop):Prop:=
 ∀(g0:Nat),∀(a:Sl)(b:Frag),RowL 5 1 t8 a f b→Ct pG 26 [(Value.pointer (some ⟨g0,0,none⟩)),(vs x1)] H [bx g0 47 (i8 g0 x0 a),b] (fun v H' Fo=>∃(y0:c7)(c:(List Int))(d:Sl)(e:Frag),v=(Value.tuple #[])∧Fo=[bx g0 47 (i8 g0 y0 d),e]∧RowL 5 1 t8 d c e∧K y0 c H') noQE
def Z9(x0:c7)(f:(List Int))(x1:f8)(x2:Int)(H:Hp)(K:c7→(List Int)→Hp→Prop):Prop:=
 ∀(g0:Nat),∀(a:Sl)(b:Frag),RowL 5 1 t8 a f b→Ct pG 49 [(Value.pointer (some ⟨g0,0,none⟩)),(Value.agg (f7 x1).toArray),(vi x2)] H [bx g0 47 (i8 g0 x0 a),b] (fun v H' Fo=>∃(y0:c7)(c:(List Int))(d:Sl)(e:Frag),v=(Value.tuple #[])∧Fo=[bx g0 47 (i8 g0 y0 d),e]∧RowL 5 1 t8 d c e∧K y0 c H') noQE
def a2P(x0:Int)(H:Hp)(K:ByteArray→Hp→Prop):Prop:=
 Ct pG 50 [(vi x0)] H [] (fun v H' Fo=>∃(r0:ByteArray),v=(Value.string r0)∧Fo=[]∧K r0 H') noQE
def D6(x0:c7)(f:(List Int))(x1:f8)(H:Hp)(K:c7→(List Int)→Hp→Prop):Prop:=
 ∀(g0:Nat),∀(a:Sl)(b:Frag),RowL 5 1 t8 a f b→Ct pG 22 [(Value.pointer (some ⟨g0,0,none⟩)),(Value.agg (f7 x1).toArray)] H [bx g0 47 (i8 g0 x0 a),b] (fun v H' Fo=>∃(y0:c7)(c:(List Int))(d:Sl)(e:Frag),v=(Value.tuple #[])∧Fo=[bx g0 47 (i8 g0 y0 d),e]∧RowL 5 1 t8 d c e∧K y0 c H') noQE
def a7h(x0:f8)(H:Hp)(K:ByteArray→Int→Hp→Prop):Prop:=
 Ct pG 8 [(Value.agg (f7 x0).toArray)] H [] (fun v H' Fo=>∃(r0:ByteArray)(r1:Int),v=(Value.tuple #[(Value.string r0),(vi r1)])∧Fo=[]∧K r0 r1 H') noQE
def a2f(H:Hp)(K:Bool→Hp→Prop):Prop:=
 Ct pG 4 [] H [] (fun v H' Fo=>∃(r0:Bool),v=(vB r0)∧Fo=[]∧K r0 H') noQE
def a0B(x0:g9)(x1:ByteArray)(H:Hp)(K:Bool→Hp→Prop):Prop:=
 Ct pG 3 [(Value.agg (o7 x0).toArray),(Value.string x1)] H [] (fun v H' Fo=>∃(r0:Bool),v=(vB r0)∧Fo=[]∧K r0 H') noQE
def B0(x0:a8)(H:Hp)(K:b7→Hp→Prop):Prop:=
 ∀(g0:Nat),Ct pG 35 [(Value.pointer (some ⟨g0,0,none⟩))] H [bx g0 86 (b9 x0)] (fun v H' Fo=>∃(r0:b7),v=(Value.agg (g8 r0).toArray)∧Fo=[bx g0 86 (b9 x0)]∧K r0 H') noQE
def r9(x0:a8)(x1:ByteArray)(H:Hp)(K:Bool→Hp→Prop):Prop:=
 ∀(g0:Nat),Ct pG 37 [(Value.pointer (some ⟨g0,0,none⟩)),(Value.string x1)] H [bx g0 86 (b9 x0)] (fun v H' Fo=>∃(r0:Bool),v=(vB r0)∧Fo=[bx g0 86 (b9 x0)]∧K r0 H') noQE
def O7(x0:a8)(H:Hp)(K:Bool→Hp→Prop):Prop:=
 ∀(g0:Nat),Ct pG 40 [(Value.pointer (some ⟨g0,0,none⟩))] H [bx g0 86 (b9 x0)] (fun v H' Fo=>∃(r0:Bool),v=(vB r0)∧Fo=[bx g0 86 (b9 x0)]∧K r0 H') noQE
def D7 [PanQ] (x0:a8) (H:Hp) (K:Hp→Prop):Prop:=
 ∀(g0:Nat),Ct pG 36 [(Value.pointer (some ⟨g0,0,none⟩))] H [bx g0 86 (b9 x0)] (fun v H' Fo=>v=(Value.tuple #[])∧Fo=[bx g0 86 (b9 x0)]∧K H') panQE
def C8 [PanQ] (x0:a8) (x1:Int) (x2:Bool) (H:Hp) (K:Hp→Prop):Prop:=
 ∀(g0:Nat),Ct pG 39 [(Value.pointer (some ⟨g0,0,none⟩)),(vi x1),(vB x2)] H [bx g0 86 (b9 x0)] (fun v H' Fo=>v=(Value.tuple #[])∧Fo=[bx g0 86 (b9 x0)]∧K H') panQE
def t7(x0:a8)(x1:ByteArray)(H:Hp)(K:Bool→a8→Hp→Prop):Prop:=
 ∀(g0:Nat),Ct pG 69 [(Value.pointer (some ⟨g0,0,none⟩)),(Value.string x1)] H [bx g0 86 (b9 x0)] (fun v H' Fo=>∃(r0:Bool)(y0:a8),v=(vB r0)∧Fo=[bx g0 86 (b9 y0)]∧K r0 y0 H') noQE
def C4 [PanQ] (x0:a8) (x1:ByteArray) (H:Hp) (K:a8→Hp→Prop):Prop:=
 ∀(g0:Nat),Ct pG 67 [(Value.pointer (some ⟨g0,0,none⟩)),(Value.string x1)] H [bx g0 86 (b9 x0)] (fun v H' Fo=>∃(y0:a8),v=(Value.tuple #[])∧Fo=[bx g0 86 (b9 y0)]∧K y0 H') panQE
def Q2 [PanQ] (x0:a8) (x1:Int) (H:Hp) (K:f8→a8→Hp→Prop):Prop:=
 ∀(g0:Nat),Ct pG 71 [(Value.pointer (some ⟨g0,0,none⟩)),(vi x1)] H [bx g0 86 (b9 x0)] (fun v H' Fo=>∃(r0:f8)(y0:a8),v=(Value.agg (f7 r0).toArray)∧Fo=[bx g0 86 (b9 y0)]∧K r0 y0 H') panQE
def Q3 [PanQ] (x0:a8) (H:Hp) (K:b7→a8→Hp→Prop):Prop:=
 ∀(g0:Nat),Ct pG 68 [(Value.pointer (some ⟨g0,0,none⟩))] H [bx g0 86 (b9 x0)] (fun v H' Fo=>∃(r0:b7)(y0:a8),v=(Value.agg (g8 r0).toArray)∧Fo=[bx g0 86 (b9 y0)]∧K r0 y0 H') panQE
def E7(x0:a8)(H:Hp)(K:Bool→Hp→Prop):Prop:=
 ∀(g0:Nat),Ct pG 101 [(Value.pointer (some ⟨g0,0,none⟩))] H [bx g0 86 (b9 x0)] (fun v H' Fo=>∃(r0:Bool),v=(vB r0)∧Fo=[bx g0 86 (b9 x0)]∧K r0 H') noQE
def S8 [PanQ] (x0:a8) (x1:Int) (x2:ByteArray) (H:Hp) (K:f8→a8→Hp→Prop):Prop:=
 ∀(g0:Nat),Ct pG 70 [(Value.pointer (some ⟨g0,0,none⟩)),(vi x1),(Value.string x2)] H [bx g0 86 (b9 x0)] (fun v H' Fo=>∃(r0:f8)(y0:a8),v=(Value.agg (f7 r0).toArray)∧Fo=[bx g0 86 (b9 y0)]∧K r0 y0 H') panQE
def N1 [PanQ] (x0:a8) (x1:Int) (H:Hp) (K:i7→a8→Hp→Prop):Prop:=
 ∀(g0:Nat),Ct pG 72 [(Value.pointer (some ⟨g0,0,none⟩)),(vi x1)] H [bx g0 86 (b9 x0)] (fun v H' Fo=>∃(r0:i7)(y0:a8),v=(Value.agg (g7 r0).toArray)∧Fo=[bx g0 86 (b9 y0)]∧K r0 y0 H') panQE
def S9 [PanQ] (x0:a8) (x1:Int) (H:Hp) (K:Sl→a8→Hp→Prop):Prop:=
 ∀(g0:Nat),Ct pG 73 [(Value.pointer (some ⟨g0,0,none⟩)),(vi x1)] H [bx g0 86 (b9 x0)] (fun v H' Fo=>∃(r0:Sl)(y0:a8),v=(vs r0)∧Fo=[bx g0 86 (b9 y0)]∧K r0 y0 H') panQE
def T7 [PanQ] (x0:a8) (x1:Int) (H:Hp) (K:d9→a8→Hp→Prop):Prop:=
 ∀(g0:Nat),Ct pG 41 [(Value.pointer (some ⟨g0,0,none⟩)),(vi x1)] H [bx g0 86 (b9 x0)] (fun v H' Fo=>∃(r0:d9)(y0:a8),v=(Value.agg (k7 r0).toArray)∧Fo=[bx g0 86 (b9 y0)]∧K r0 y0 H') panQE
def a1P [PanQ] (x0:a8) (x1:Int) (H:Hp) (K:b7→a8→Hp→Prop):Prop:=
 ∀(g0:Nat),Ct pG 66 [(Value.pointer (some ⟨g0,0,none⟩)),(vi x1)] H [bx g0 86 (b9 x0)] (fun v H' Fo=>∃(r0:b7)(y0:a8),v=(Value.agg (g8 r0).toArray)∧Fo=[bx g0 86 (b9 y0)]∧K r0 y0 H') panQE
def a1Q [PanQ] (x0:a8) (H:Hp) (K:i6→a8→Hp→Prop):Prop:=
 ∀(g0:Nat),Ct pG 38 [(Value.pointer (some ⟨g0,0,none⟩))] H [bx g0 86 (b9 x0)] (fun v H' Fo=>∃(r0:i6)(y0:a8),v=(Value.agg (u1 r0).toArray)∧Fo=[bx g0 86 (b9 y0)]∧K r0 y0 H') panQE
def a1R [PanQ] (x0:a8) (H:Hp) (K:g9→a8→Hp→Prop):Prop:=
 ∀(g0:Nat),Ct pG 16 [(Value.pointer (some ⟨g0,0,none⟩))] H [bx g0 86 (b9 x0)] (fun v H' Fo=>∃(r0:g9)(y0:a8),v=(Value.agg (o7 r0).toArray)∧Fo=[bx g0 86 (b9 y0)]∧K r0 y0 H') panQE
def a7t(x0:c7)(f:(List Int))(x1:ByteArray)(x2:i7)(x3:ByteArray)(H:Hp)(K:c7→(List Int)→Hp→Prop):Prop:=
 ∀(g0:Nat),∀(a:Sl)(b:Frag),RowL 5 1 t8 a f b→Ct pG 30 [(Value.pointer (some ⟨g0,0,none⟩)),(Value.string x1),(Value.agg (g7 x2).toArray),(Value.string x3)] H [bx g0 47 (i8 g0 x0 a),b] (fun v H' Fo=>∃(y0:c7)(c:(List Int))(d:Sl)(e:Frag),v=(Value.tuple #[])∧Fo=[bx g0 47 (i8 g0 y0 d),e]∧RowL 5 1 t8 d c e∧K y0 c H') noQE
def Y0(x0:c7)(f:(List Int))(x1:Sl)(H:Hp)(K:c7→(List Int)→Hp→Prop):Prop:=
 ∀(g0:Nat),∀(a:Sl)(b:Frag),RowL 5 1 t8 a f b→Ct pG 31 [(Value.pointer (some ⟨g0,0,none⟩)),(vs x1)] H [bx g0 47 (i8 g0 x0 a),b] (fun v H' Fo=>∃(y0:c7)(c:(List Int))(d:Sl)(e:Frag),v=(Value.tuple #[])∧Fo=[bx g0 47 (i8 g0 y0 d),e]∧RowL 5 1 t8 d c e∧K y0 c H') noQE
def a7i(x0:ByteArray)(H:Hp)(K:Sl→c8→Int→Hp→Prop):Prop:=
 Ct pG 33 [(Value.string x0)] H [] (fun v H' Fo=>∃(r0:Sl)(r1:c8)(r2:Int),v=(Value.tuple #[(vs r0),(Value.agg (m8 r1).toArray),(vi r2)])∧Fo=[]∧K r0 r1 r2 H') noQE
def b3Y(x0:ByteArray)(x1:Int)(H:Hp)(K:ByteArray→Hp→Prop):Prop:=
 Ct pG 56 [(Value.string x0),(vi x1)] H [] (fun v H' Fo=>∃(r0:ByteArray),v=(Value.string r0)∧Fo=[]∧K r0 H') noQE
def Z3(x0:c7)(f:(List Int))(x1:i7)(x2:Int)(H:Hp)(K:c7→(List Int)→Hp→Prop):Prop:=
 ∀(g0:Nat),∀(a:Sl)(b:Frag),RowL 5 1 t8 a f b→Ct pG 88 [(Value.pointer (some ⟨g0,0,none⟩)),(Value.agg (g7 x1).toArray),(vi x2)] H [bx g0 47 (i8 g0 x0 a),b] (fun v H' Fo=>∃(y0:c7)(c:(List Int))(d:Sl)(e:Frag),v=(Value.tuple #[])∧Fo=[bx g0 47 (i8 g0 y0 d),e]∧RowL 5 1 t8 d c e∧K y0 c H') noQE
def a0j(x0:Int)(H:Hp)(K:Int→Hp→Prop):Prop:=
 Ct pG 87 [(vi x0)] H [] (fun v H' Fo=>∃(r0:Int),v=(vi r0)∧Fo=[]∧K r0 H') noQE
def Q4(x0:c7)(f:(List Int))(x1:i7)(H:Hp)(K:c7→(List Int)→Hp→Prop):Prop:=
 ∀(g0:Nat),∀(a:Sl)(b:Frag),RowL 5 1 t8 a f b→Ct pG 60 [(Value.pointer (some ⟨g0,0,none⟩)),(Value.agg (g7 x1).toArray)] H [bx g0 47 (i8 g0 x0 a),b] (fun v H' Fo=>∃(y0:c7)(c:(List Int))(d:Sl)(e:Frag),v=(Value.tuple #[])∧Fo=[bx g0 47 (i8 g0 y0 d),e]∧RowL 5 1 t8 d c e∧K y0 c H') noQE
def Y5(x0:ByteArray)(H:Hp)(K:Int→Int→Hp→Prop):Prop:=
 Ct pG 89 [(Value.string x0)] H [] (fun v H' Fo=>∃(r0:Int)(r1:Int),v=(Value.tuple #[(Value.int .i32 r0),(vi r1)])∧Fo=[]∧K r0 r1 H') noQE
def a7j(x0:ByteArray)(H:Hp)(K:Int→Int→Hp→Prop):Prop:=
 Ct pG 61 [(Value.string x0)] H [] (fun v H' Fo=>∃(r0:Int)(r1:Int),v=(Value.tuple #[(vi r0),(vi r1)])∧Fo=[]∧K r0 r1 H') noQE
def a9r(x0:ByteArray)(x1:Int)(H:Hp)(K:c8→Hp→Prop):Prop:=
 Ct pG 62 [(Value.string x0),(vi x1)] H [] (fun v H' Fo=>∃(r0:c8),v=(Value.agg (m8 r0).toArray)∧Fo=[]∧K r0 H') noQE
def S2(x0:d7)(c:(List b7))(H:Hp)(K:ByteArray→Hp→Prop):Prop:=
 ∀(g0:Nat),∀(a:Sl)(b:Frag),RowL 88 5 g8 a c b→Ct pG 95 [(Value.pointer (some ⟨g0,0,none⟩))] H [bx g0 123 (u0 x0 a),b] (fun v H' Fo=>∃(r0:ByteArray),v=(Value.string r0)∧Fo=[bx g0 123 (u0 x0 a),b]∧K r0 H') noQE
def a2z(x0:ByteArray)(x1:ByteArray)(H:Hp)(K:Bool→Hp→Prop):Prop:=
 Ct pG 112 [(Value.string x0),(Value.string x1)] H [] (fun v H' Fo=>∃(r0:Bool),v=(vB r0)∧Fo=[]∧K r0 H') noQE
def a2K(x0:ByteArray)(x1:ByteArray)(H:Hp)(K:Bool→Hp→Prop):Prop:=
 Ct pG 80 [(Value.string x0),(Value.string x1)] H [] (fun v H' Fo=>∃(r0:Bool),v=(vB r0)∧Fo=[]∧K r0 H') noQE
def a0W(x0:Int)(H:Hp)(K:Bool→Hp→Prop):Prop:=
 Ct pG 96 [(Value.int .i32 x0)] H [] (fun v H' Fo=>∃(r0:Bool),v=(vB r0)∧Fo=[]∧K r0 H') noQE
def G9(x0:d7)(f:(List b7))(H:Hp)(K:d7→(List b7)→Hp→Prop):Prop:=
 ∀(g0:Nat),∀(a:Sl)(b:Frag),RowL 88 5 g8 a f b→Ct pG 125 [(Value.pointer (some ⟨g0,0,none⟩))] H [bx g0 123 (u0 x0 a),b] (fun v H' Fo=>∃(y0:d7)(c:(List b7))(d:Sl)(e:Frag),v=(Value.tuple #[])∧Fo=[bx g0 123 (u0 y0 d),e]∧RowL 88 5 g8 d c e∧K y0 c H') noQE
def D5(x0:d7)(c:(List b7))(H:Hp)(K:Int→Bool→Hp→Prop):Prop:=
 ∀(g0:Nat),∀(a:Sl)(b:Frag),RowL 88 5 g8 a c b→Ct pG 64 [(Value.pointer (some ⟨g0,0,none⟩))] H [bx g0 123 (u0 x0 a),b] (fun v H' Fo=>∃(r0:Int)(r1:Bool),v=(Value.tuple #[(Value.int .i32 r0),(vB r1)])∧Fo=[bx g0 123 (u0 x0 a),b]∧K r0 r1 H') noQE
def L6(x0:d7)(f:(List b7))(H:Hp)(K:ByteArray→d7→(List b7)→Hp→Prop):Prop:=
 ∀(g0:Nat),∀(a:Sl)(b:Frag),RowL 88 5 g8 a f b→Ct pG 94 [(Value.pointer (some ⟨g0,0,none⟩)),(fC 96)] H [bx g0 123 (u0 x0 a),b] (fun v H' Fo=>∃(r0:ByteArray)(y0:d7)(c:(List b7))(d:Sl)(e:Frag),v=(Value.string r0)∧Fo=[bx g0 123 (u0 y0 d),e]∧RowL 88 5 g8 d c e∧K r0 y0 c H') noQE
def a0X(x0:Int)(H:Hp)(K:Bool→Hp→Prop):Prop:=
 Ct pG 92 [(Value.int .i32 x0)] H [] (fun v H' Fo=>∃(r0:Bool),v=(vB r0)∧Fo=[]∧K r0 H') noQE
def E2(x0:d7)(f:(List b7))(H:Hp)(K:ByteArray→d7→(List b7)→Hp→Prop):Prop:=
 ∀(g0:Nat),∀(a:Sl)(b:Frag),RowL 88 5 g8 a f b→Ct pG 94 [(Value.pointer (some ⟨g0,0,none⟩)),(fC 92)] H [bx g0 123 (u0 x0 a),b] (fun v H' Fo=>∃(r0:ByteArray)(y0:d7)(c:(List b7))(d:Sl)(e:Frag),v=(Value.string r0)∧Fo=[bx g0 123 (u0 y0 d),e]∧RowL 88 5 g8 d c e∧K r0 y0 c H') noQE
def Z4(x0:d7)(f:(List b7))(H:Hp)(K:d7→(List b7)→Hp→Prop):Prop:=
 ∀(g0:Nat),∀(a:Sl)(b:Frag),RowL 88 5 g8 a f b→Ct pG 63 [(Value.pointer (some ⟨g0,0,none⟩))] H [bx g0 123 (u0 x0 a),b] (fun v H' Fo=>∃(y0:d7)(c:(List b7))(d:Sl)(e:Frag),v=(Value.tuple #[])∧Fo=[bx g0 123 (u0 y0 d),e]∧RowL 88 5 g8 d c e∧K y0 c H') noQE
def P6(x0:d7)(f:(List b7))(H:Hp)(K:ByteArray→d7→(List b7)→Hp→Prop):Prop:=
 ∀(g0:Nat),∀(a:Sl)(b:Frag),RowL 88 5 g8 a f b→Ct pG 94 [(Value.pointer (some ⟨g0,0,none⟩)),(fC 126)] H [bx g0 123 (u0 x0 a),b] (fun v H' Fo=>∃(r0:ByteArray)(y0:d7)(c:(List b7))(d:Sl)(e:Frag),v=(Value.string r0)∧Fo=[bx g0 123 (u0 y0 d),e]∧RowL 88 5 g8 d c e∧K r0 y0 c H') noQE
def a4M(x0:d7)(f:(List b7))(H:Hp)(K:b7→Int→d7→(List b7)→Hp→Prop):Prop:=
 ∀(g0:Nat),∀(a:Sl)(b:Frag),RowL 88 5 g8 a f b→Ct pG 97 [(Value.pointer (some ⟨g0,0,none⟩))] H [bx g0 123 (u0 x0 a),b] (fun v H' Fo=>∃(r0:b7)(r1:Int)(y0:d7)(c:(List b7))(d:Sl)(e:Frag),v=(Value.tuple #[(Value.agg (g8 r0).toArray),(vi r1)])∧Fo=[bx g0 123 (u0 y0 d),e]∧RowL 88 5 g8 d c e∧K r0 r1 y0 c H') noQE
def a0Y(x0:Int)(H:Hp)(K:Bool→Hp→Prop):Prop:=
 Ct pG 129 [(Value.int .i32 x0)] H [] (fun v H' Fo=>∃(r0:Bool),v=(vB r0)∧Fo=[]∧K r0 H') noQE
def L8(x0:d7)(f:(List b7))(H:Hp)(K:ByteArray→d7→(List b7)→Hp→Prop):Prop:=
 ∀(g0:Nat),∀(a:Sl)(b:Frag),RowL 88 5 g8 a f b→Ct pG 94 [(Value.pointer (some ⟨g0,0,none⟩)),(fC 129)] H [bx g0 123 (u0 x0 a),b] (fun v H' Fo=>∃(r0:ByteArray)(y0:d7)(c:(List b7))(d:Sl)(e:Frag),v=(Value.string r0)∧Fo=[bx g0 123 (u0 y0 d),e]∧RowL 88 5 g8 d c e∧K r0 y0 c H') noQE
def a8a(x0:ByteArray)(x1:Int)(x2:Int)(H:Hp)(K:Int→Value→Hp→Prop):Prop:=
 Ct pG 130 [(Value.string x0),(vi x1),(vi x2)] H [] (fun v H' Fo=>∃(r0:Int)(r1:Value),v=(Value.tuple #[(vi r0),r1])∧Fo=[]∧K r0 r1 H') noQE
def a4p(x0:d7)(f:(List b7))(H:Hp)(K:b7→Int→d7→(List b7)→Hp→Prop):Prop:=
 ∀(g0:Nat),∀(a:Sl)(b:Frag),RowL 88 5 g8 a f b→Ct pG 98 [(Value.pointer (some ⟨g0,0,none⟩))] H [bx g0 123 (u0 x0 a),b] (fun v H' Fo=>∃(r0:b7)(r1:Int)(y0:d7)(c:(List b7))(d:Sl)(e:Frag),v=(Value.tuple #[(Value.agg (g8 r0).toArray),(vi r1)])∧Fo=[bx g0 123 (u0 y0 d),e]∧RowL 88 5 g8 d c e∧K r0 r1 y0 c H') noQE
def a4N(x0:d7)(f:(List b7))(H:Hp)(K:b7→Int→d7→(List b7)→Hp→Prop):Prop:=
 ∀(g0:Nat),∀(a:Sl)(b:Frag),RowL 88 5 g8 a f b→Ct pG 99 [(Value.pointer (some ⟨g0,0,none⟩))] H [bx g0 123 (u0 x0 a),b] (fun v H' Fo=>∃(r0:b7)(r1:Int)(y0:d7)(c:(List b7))(d:Sl)(e:Frag),v=(Value.tuple #[(Value.agg (g8 r0).toArray),(vi r1)])∧Fo=[bx g0 123 (u0 y0 d),e]∧RowL 88 5 g8 d c e∧K r0 r1 y0 c H') noQE
def a8b(H:Hp)(K:b7→Int→Hp→Prop):Prop:=
 Ct pG 100 [] H [] (fun v H' Fo=>∃(r0:b7)(r1:Int),v=(Value.tuple #[(Value.agg (g8 r0).toArray),(vi r1)])∧Fo=[]∧K r0 r1 H') noQE
def a1S [PanQ] (x0:a8) (x1:Int) (H:Hp) (K:f8→a8→Hp→Prop):Prop:=
 ∀(g0:Nat),Ct pG 103 [(Value.pointer (some ⟨g0,0,none⟩)),(vi x1)] H [bx g0 86 (b9 x0)] (fun v H' Fo=>∃(r0:f8)(y0:a8),v=(Value.agg (f7 r0).toArray)∧Fo=[bx g0 86 (b9 y0)]∧K r0 y0 H') panQE
def a0k [PanQ] (x0:a8) (H:Hp) (K:Int→a8→Hp→Prop):Prop:=
 ∀(g0:Nat),Ct pG 134 [(Value.pointer (some ⟨g0,0,none⟩))] H [bx g0 86 (b9 x0)] (fun v H' Fo=>∃(r0:Int)(y0:a8),v=(vi r0)∧Fo=[bx g0 86 (b9 y0)]∧K r0 y0 H') panQE
def P3(x0:a8)(H:Hp)(K:Bool→Hp→Prop):Prop:=
 ∀(g0:Nat),Ct pG 133 [(Value.pointer (some ⟨g0,0,none⟩))] H [bx g0 86 (b9 x0)] (fun v H' Fo=>∃(r0:Bool),v=(vB r0)∧Fo=[bx g0 86 (b9 x0)]∧K r0 H') noQE
def V4 [PanQ] (x0:a8) (x1:Int) (H:Hp) (K:i7→a8→Hp→Prop):Prop:=
 ∀(g0:Nat),Ct pG 106 [(Value.pointer (some ⟨g0,0,none⟩)),(vi x1)] H [bx g0 86 (b9 x0)] (fun v H' Fo=>∃(r0:i7)(y0:a8),v=(Value.agg (g7 r0).toArray)∧Fo=[bx g0 86 (b9 y0)]∧K r0 y0 H') panQE
def a1x(x0:a8)(x1:a1u)(H:Hp)(K:Int→a8→Hp→Prop):Prop:=
 ∀(g0:Nat),Ct pG 131 [(Value.pointer (some ⟨g0,0,none⟩)),(Value.agg (U8 x1).toArray)] H [bx g0 86 (b9 x0)] (fun v H' Fo=>∃(r0:Int)(y0:a8),v=(vi r0)∧Fo=[bx g0 86 (b9 y0)]∧K r0 y0 H') noQE
def Q5 [PanQ] (x0:a8) (x1:Int) (H:Hp) (K:f8→a8→Hp→Prop):Prop:=
 ∀(g0:Nat),Ct pG 132 [(Value.pointer (some ⟨g0,0,none⟩)),(vi x1)] H [bx g0 86 (b9 x0)] (fun v H' Fo=>∃(r0:f8)(y0:a8),v=(Value.agg (f7 r0).toArray)∧Fo=[bx g0 86 (b9 y0)]∧K r0 y0 H') panQE
def a2Q(x0:L4)(H:Hp)(K:Bool→Hp→Prop):Prop:=
 Ct pG 170 [(Value.agg (f7 x0.y7).toArray)] H [] (fun v H' Fo=>∃(r0:Bool),v=(vB r0)∧Fo=[]∧K r0 H') noQE
def a6J(x0:f8)(H:Hp)(K:d8→Hp→Prop):Prop:=
 Ct pG 173 [(Value.agg (f7 x0).toArray)] H [] (fun v H' Fo=>∃(r0:d8),v=(G6 r0)∧Fo=[]∧K r0 H') noQE
def B2(x0:Sl)(H:Hp)(K:Sl→Hp→Prop):Prop:=
 Ct pG 172 [(vs x0),(fC 173)] H [] (fun v H' Fo=>∃(r0:Sl),v=(vs r0)∧Fo=[]∧K r0 H') noQE
def a4O(x0:L4)(H:Hp)(K:Sl→Hp→Prop):Prop:=
 Ct pG 171 [(Value.agg (f7 x0.y7).toArray)] H [] (fun v H' Fo=>∃(r0:Sl),v=(vs r0)∧Fo=[]∧K r0 H') noQE
def a5E(x0:Y7)(H:Hp)(K:Bool→Hp→Prop):Prop:=
 Ct pG 174 [(Value.agg (u1 x0.a0I).toArray)] H [] (fun v H' Fo=>∃(r0:Bool),v=(vB r0)∧Fo=[]∧K r0 H') noQE
def a4P(x0:Y7)(H:Hp)(K:Sl→Hp→Prop):Prop:=
 Ct pG 175 [(Value.agg (u1 x0.a0I).toArray)] H [] (fun v H' Fo=>∃(r0:Sl),v=(vs r0)∧Fo=[]∧K r0 H') noQE
def a2R(x0:V2)(H:Hp)(K:Bool→Hp→Prop):Prop:=
 Ct pG 176 [(Value.agg (k7 x0.m0).toArray)] H [] (fun v H' Fo=>∃(r0:Bool),v=(vB r0)∧Fo=[]∧K r0 H') noQE
def a6K(x0:i7)(H:Hp)(K:d8→Hp→Prop):Prop:=
 Ct pG 179 [(Value.agg (g7 x0).toArray)] H [] (fun v H' Fo=>∃(r0:d8),v=(G6 r0)∧Fo=[]∧K r0 H') noQE
def D8(x0:Sl)(H:Hp)(K:Sl→Hp→Prop):Prop:=
 Ct pG 178 [(vs x0),(fC 179)] H [] (fun v H' Fo=>∃(r0:Sl),v=(vs r0)∧Fo=[]∧K r0 H') noQE
def a4Q(x0:V2)(H:Hp)(K:Sl→Hp→Prop):Prop:=
 Ct pG 177 [(Value.agg (k7 x0.m0).toArray)] H [] (fun v H' Fo=>∃(r0:Sl),v=(vs r0)∧Fo=[]∧K r0 H') noQE
def a2S(x0:V3)(H:Hp)(K:Bool→Hp→Prop):Prop:=
 Ct pG 184 [(Value.agg (g7 x0.u6).toArray)] H [] (fun v H' Fo=>∃(r0:Bool),v=(vB r0)∧Fo=[]∧K r0 H') noQE
def a4R(x0:V3)(H:Hp)(K:Sl→Hp→Prop):Prop:=
 Ct pG 185 [(Value.agg (g7 x0.u6).toArray)] H [] (fun v H' Fo=>∃(r0:Sl),v=(vs r0)∧Fo=[]∧K r0 H') noQE
def a4f(x:d8)(H:Hp)(K:Bool→Hp→Prop):Prop:=match x with
 | .nil=>False
 | .G3 y=>a2Q y H K
 | .O1 y=>a5E y H K
 | .L5 y=>a2R y H K
 | .P1 y=>a2S y H K
def a3K(x:d8)(H:Hp)(K:Sl→Hp→Prop):Prop:=match x with
 | .nil=>False
 | .G3 y=>a4O y H K
 | .O1 y=>a4P y H K
 | .L5 y=>a4Q y H K
 | .P1 y=>a4R y H K
theorem b0C {E : Pan} {w0 w : World} {ps : Nat → Prop} {H0 H : Hp} {Fr : List Frag} {K : RT} {Kc : Bool → Hp → Prop} {x : d8} (I : Inv w0 ps H0 H Fr w) (h : a4f x H Kc) (hq : ∀ (r0 : Bool) (H' : Hp) (w' : World), Inv w0 ps H0 H' Fr w' → Hle H H' → (∀ i, i < w.heap.size → ¬ inF [] i → w'.heap[i]? = w.heap[i]?) → Kc r0 H' → K (vB r0) w') : oP E (xInvoke (G6 x) "gnomon/tree.form" []) w K := by
 cases x with
 | nil=>exact h.elim
 | G3 y=>exact a0R (f:=170) (args:=[(Value.agg (f7 y.y7).toArray)].toArray) (by kernel_rfl) (a3B (Fi:=[]) I h (fun v H' Fo w' I' l hk hq'=>by obtain ⟨r0,rfl,rfl,hK⟩:=hq';exact hq r0 H' w' I' l hk hK) (fun _ _ _ _ _ q=>q.elim))
 | O1 y=>exact a0R (f:=174) (args:=[(Value.agg (u1 y.a0I).toArray)].toArray) (by kernel_rfl) (a3B (Fi:=[]) I h (fun v H' Fo w' I' l hk hq'=>by obtain ⟨r0,rfl,rfl,hK⟩:=hq';exact hq r0 H' w' I' l hk hK) (fun _ _ _ _ _ q=>q.elim))
 | L5 y=>exact a0R (f:=176) (args:=[(Value.agg (k7 y.m0).toArray)].toArray) (by kernel_rfl) (a3B (Fi:=[]) I h (fun v H' Fo w' I' l hk hq'=>by obtain ⟨r0,rfl,rfl,hK⟩:=hq';exact hq r0 H' w' I' l hk hK) (fun _ _ _ _ _ q=>q.elim))
 | P1 y=>exact a0R (f:=184) (args:=[(Value.agg (g7 y.u6).toArray)].toArray) (by kernel_rfl) (a3B (Fi:=[]) I h (fun v H' Fo w' I' l hk hq'=>by obtain ⟨r0,rfl,rfl,hK⟩:=hq';exact hq r0 H' w' I' l hk hK) (fun _ _ _ _ _ q=>q.elim))
theorem b0k {E : Pan} {w0 w : World} {ps : Nat → Prop} {H0 H : Hp} {Fr : List Frag} {K : RT} {Kc : Sl → Hp → Prop} {x : d8} (I : Inv w0 ps H0 H Fr w) (h : a3K x H Kc) (hq : ∀ (r0 : Sl) (H' : Hp) (w' : World), Inv w0 ps H0 H' Fr w' → Hle H H' → (∀ i, i < w.heap.size → ¬ inF [] i → w'.heap[i]? = w.heap[i]?) → Kc r0 H' → K (vs r0) w') : oP E (xInvoke (G6 x) "gnomon/tree.parts" []) w K := by
 cases x with
 | nil=>exact h.elim
 | G3 y=>exact a0R (f:=171) (args:=[(Value.agg (f7 y.y7).toArray)].toArray) (by kernel_rfl) (a3B (Fi:=[]) I h (fun v H' Fo w' I' l hk hq'=>by obtain ⟨r0,rfl,rfl,hK⟩:=hq';exact hq r0 H' w' I' l hk hK) (fun _ _ _ _ _ q=>q.elim))
 | O1 y=>exact a0R (f:=175) (args:=[(Value.agg (u1 y.a0I).toArray)].toArray) (by kernel_rfl) (a3B (Fi:=[]) I h (fun v H' Fo w' I' l hk hq'=>by obtain ⟨r0,rfl,rfl,hK⟩:=hq';exact hq r0 H' w' I' l hk hK) (fun _ _ _ _ _ q=>q.elim))
 | L5 y=>exact a0R (f:=177) (args:=[(Value.agg (k7 y.m0).toArray)].toArray) (by kernel_rfl) (a3B (Fi:=[]) I h (fun v H' Fo w' I' l hk hq'=>by obtain ⟨r0,rfl,rfl,hK⟩:=hq';exact hq r0 H' w' I' l hk hK) (fun _ _ _ _ _ q=>q.elim))
 | P1 y=>exact a0R (f:=185) (args:=[(Value.agg (g7 y.u6).toArray)].toArray) (by kernel_rfl) (a3B (Fi:=[]) I h (fun v H' Fo w' I' l hk hq'=>by obtain ⟨r0,rfl,rfl,hK⟩:=hq';exact hq r0 H' w' I' l hk hK) (fun _ _ _ _ _ q=>q.elim))
end Go.Proofs.YtoflkliecagjcaaGreatDoor
