/- Contracts of the program's functions; printed by lift.py off the code. -/
import Derived.Test.YtaokfhdinhimfaaGreatDooryCU1
import Derived.Test.YtaokfhdinhimfaaGreatDooryCG1a
import Derived.Test.YtaokfhdinhimfaaGreatDooryCG1b
import Derived.Test.YtaokfhdinhimfaaGreatDooryCG1c
import Derived.Test.YtaokfhdinhimfaaGreatDooryCG1d
namespace Go.Proofs.YtaokfhdinhimfaaGreatDoor
open Go.RowKit
set_option maxRecDepth 100000
set_option maxHeartbeats 2000000
def X8(x0:r5)(l:(List Bool))(m:(List Int))(x1:Int)(H:Hp)(K:r5→(List Bool)→(List Int)→Hp→Prop):Prop:=
 ∀(g0:Nat),∀(a:Sl)(b:Frag)(c:Sl)(d:Frag),RowL 4 1 L8 a l b→RowL 3 1 r9 c m d→Ct pG 60 [(Value.pointer (some ⟨g0,0,none⟩)),(vi x1)] H [bx g0 96 (a8i x0 a c),b,d] (fun v H' Fo=>∃(y0:r5)(e:(List Bool))(f:(List Int))(g:Sl)(i:Frag)(j:Sl)(k:Frag),v=(Value.tuple #[])∧Fo=[bx g0 96 (a8i y0 g j),i,k]∧RowL 4 1 L8 g e i∧RowL 3 1 r9 j f k∧K y0 e f H') noQE
def a0Z(x0:f7)(H:Hp)(K:r5→Hp→Prop):Prop:=
 Ct pG 43 [(Value.agg (g8 x0).toArray)] H [] (fun v H' Fo=>∃(r0:r5)(gr0:Nat),v=(Value.pointer (some ⟨gr0,0,none⟩))∧Fo=[bx gr0 96 (a0o r0)]∧K r0 H') noQE
def a0M(x0:f7)(H:Hp)(K:Sl→Hp→Prop):Prop:=
 Ct pG 20 [(Value.agg (g8 x0).toArray)] H [] (fun v H' Fo=>∃(r0:Sl),v=(vs r0)∧Fo=[]∧K r0 H') noQE
def a3j(x0:f7)(H:Hp)(K:Sl→Hp→Prop):Prop:=
 Ct pG 19 [(Value.agg (g8 x0).toArray)] H [] (fun v H' Fo=>∃(r0:Sl),v=(vs r0)∧Fo=[]∧K r0 H') noQE
def R8(x0:Sl)(x1:Sl)(H:Hp)(K:Bool→Hp→Prop):Prop:=
 Ct pG 16 [(vs x0),(vs x1)] H [] (fun v H' Fo=>∃(r0:Bool),v=(vB r0)∧Fo=[]∧K r0 H') noQE
def a1T(x0:f7)(H:Hp)(K:Sl→Hp→Prop):Prop:=
 Ct pG 18 [(Value.agg (g8 x0).toArray)] H [] (fun v H' Fo=>∃(r0:Sl),v=(vs r0)∧Fo=[]∧K r0 H') noQE
def a8S(x0:E6)(H:Hp)(K:f7→Int→Hp→Prop):Prop:=
 Ct pG 6 [(Value.agg (C7 x0).toArray)] H [] (fun v H' Fo=>∃(r0:f7)(r1:Int),v=(Value.tuple #[(Value.agg (g8 r0).toArray),(vi r1)])∧Fo=[]∧K r0 r1 H') noQE
def a3k(H:Hp)(K:Bool→Hp→Prop):Prop:=
 Ct pG 5 [] H [] (fun v H' Fo=>∃(r0:Bool),v=(vB r0)∧Fo=[]∧K r0 H') noQE
def a4z(x0:Int)(H:Hp)(K:Int→Hp→Prop):Prop:=
 Ct pG 52 [(vi x0)] H [] (fun v H' Fo=>∃(r0:Int),v=(vi r0)∧Fo=[]∧K r0 H') noQE
def a3W(x0:f7)(x1:Sl)(H:Hp)(K:Bool→Hp→Prop):Prop:=
 Ct pG 35 [(Value.agg (g8 x0).toArray),(vs x1)] H [] (fun v H' Fo=>∃(r0:Bool),v=(vB r0)∧Fo=[]∧K r0 H') noQE
def a1k(x0:f7)(H:Hp)(K:Int→Hp→Prop):Prop:=
 Ct pG 33 [(Value.agg (g8 x0).toArray)] H [] (fun v H' Fo=>∃(r0:Int),v=(vi r0)∧Fo=[]∧K r0 H') noQE
def a3X(H:Hp)(K:m3→Hp→Prop):Prop:=
 Ct pG 91 [] H [] (fun v H' Fo=>∃(r0:m3),v=(Value.agg (i7 r0).toArray)∧Fo=[]∧K r0 H') noQE
def a0h(x0:m3)(x1:Bool)(x2:Int)(H:Hp)(K:Bool→Hp→Prop):Prop:=
 Ct pG 51 [(Value.agg (i7 x0).toArray),(vB x1),(vi x2)] H [] (fun v H' Fo=>∃(r0:Bool),v=(vB r0)∧Fo=[]∧K r0 H') noQE
def a3l(x0:d5)(x1:Int)(x2:Int)(H:Hp)(K:Bool→Hp→Prop):Prop:=
 Ct pG 34 [(Value.agg (i5 x0).toArray),(vi x1),(vi x2)] H [] (fun v H' Fo=>∃(r0:Bool),v=(vB r0)∧Fo=[]∧K r0 H') noQE
def a3m(x0:f7)(H:Hp)(K:Int→Hp→Prop):Prop:=
 Ct pG 9 [(Value.agg (g8 x0).toArray)] H [] (fun v H' Fo=>∃(r0:Int),v=(vi r0)∧Fo=[]∧K r0 H') noQE
def a1U(x0:f7)(H:Hp)(K:f7→Hp→Prop):Prop:=
 Ct pG 10 [(Value.agg (g8 x0).toArray)] H [] (fun v H' Fo=>∃(r0:f7),v=(Value.agg (g8 r0).toArray)∧Fo=[]∧K r0 H') noQE
def a3Y(x0:Int)(H:Hp)(K:Int→Hp→Prop):Prop:=
 Ct pG 59 [(vi x0)] H [] (fun v H' Fo=>∃(r0:Int),v=(vi r0)∧Fo=[]∧K r0 H') noQE
def a7j(x0:Sl)(H:Hp)(K:Bool→Hp→Prop):Prop:=
 Ct pG 42 [(vs x0)] H [] (fun v H' Fo=>∃(r0:Bool),v=(vB r0)∧Fo=[]∧K r0 H') noQE
def W7(x0:j8)(x1:Int)(H:Hp)(K:Bool→Hp→Prop):Prop:=
 Ct pG 40 [(Value.agg (g8 x0.y9).toArray),(vi x1)] H [] (fun v H' Fo=>∃(r0:Bool),v=(vB r0)∧Fo=[]∧K r0 H') noQE
def a5F(x0:Int)(H:Hp)(K:m1→Hp→Prop):Prop:=
 Ct pG 53 [(vi x0)] H [] (fun v H' Fo=>∃(r0:m1),v=(Value.agg (a7R r0).toArray)∧Fo=[]∧K r0 H') noQE
def a0i(x0:j8)(x1:Int)(H:Hp)(K:Bool→Hp→Prop):Prop:=
 Ct pG 55 [(Value.agg (g8 x0.y9).toArray),(vi x1)] H [] (fun v H' Fo=>∃(r0:Bool),v=(vB r0)∧Fo=[]∧K r0 H') noQE
def a0A(x0:Bool)(x1:Bool)(x2:Bool)(H:Hp)(K:Bool→Hp→Prop):Prop:=
 Ct pG 54 [(vB x0),(vB x1),(vB x2)] H [] (fun v H' Fo=>∃(r0:Bool),v=(vB r0)∧Fo=[]∧K r0 H') noQE
def a3Z(x0:j8)(x1:Int)(H:Hp)(K:Bool→Hp→Prop):Prop:=
 Ct pG 56 [(Value.agg (g8 x0.y9).toArray),(vi x1)] H [] (fun v H' Fo=>∃(r0:Bool),v=(vB r0)∧Fo=[]∧K r0 H') noQE
def a0s(x0:j8)(x1:m3)(H:Hp)(K:Bool→Hp→Prop):Prop:=
 Ct pG 57 [(Value.agg (g8 x0.y9).toArray),(Value.agg (i7 x1).toArray)] H [] (fun v H' Fo=>∃(r0:Bool),v=(vB r0)∧Fo=[]∧K r0 H') noQE
def T4(H:Hp)(K:m3→Hp→Prop):Prop:=
 Ct pG 58 [] H [] (fun v H' Fo=>∃(r0:m3),v=(Value.agg (i7 r0).toArray)∧Fo=[]∧K r0 H') noQE
def a4a(x0:j8)(x1:d5)(H:Hp)(K:Bool→Hp→Prop):Prop:=
 Ct pG 41 [(Value.agg (g8 x0.y9).toArray),(Value.agg (i5 x1).toArray)] H [] (fun v H' Fo=>∃(r0:Bool),v=(vB r0)∧Fo=[]∧K r0 H') noQE
def S4(x0:f7)(H:Hp)(K:Int→Hp→Prop):Prop:=
 Ct pG 15 [(Value.agg (g8 x0).toArray)] H [] (fun v H' Fo=>∃(r0:Int),v=(vi r0)∧Fo=[]∧K r0 H') noQE
def a3h(x0:f7)(H:Hp)(K:Sl→Hp→Prop):Prop:=
 Ct pG 36 [(Value.agg (g8 x0).toArray)] H [] (fun v H' Fo=>∃(r0:Sl),v=(vs r0)∧Fo=[]∧K r0 H') noQE
def a7z(x0:f7)(x1:Int)(H:Hp)(K:Sl→Int→Hp→Prop):Prop:=
 Ct pG 11 [(Value.agg (g8 x0).toArray),(vi x1)] H [] (fun v H' Fo=>∃(r0:Sl)(r1:Int),v=(Value.tuple #[(vs r0),(vi r1)])∧Fo=[]∧K r0 r1 H') noQE
def a1M(x0:Int)(x1:Sl)(x1_:(List Bool))(x2:Sl)(x4:f7)(H:Hp)(K:Sl→(List Bool)→Hp→Prop):Prop:=
 ∀(g1 g2 g3 g4:Nat),∀(sx1_:Sl)(Fx1_:Frag),RowL 4 1 L8 sx1_ x1_ Fx1_→Ct pG 37 [(vi x0),(Value.pointer (some ⟨g1,0,none⟩)),(Value.pointer (some ⟨g2,0,none⟩)),(Value.pointer (some ⟨g3,0,none⟩)),(Value.pointer (some ⟨g4,0,none⟩))] H [bx g1 47 [(vs sx1_)],Fx1_,bx g2 83 [(vs x2)],bx g3 87 [(Value.func (.func 37) #[] #[(Value.pointer (some ⟨g1,0,none⟩)),(Value.pointer (some ⟨g2,0,none⟩)),(Value.pointer (some ⟨g3,0,none⟩)),(Value.pointer (some ⟨g4,0,none⟩))])],bx g4 30 (g8 x4)] (fun v H' Fo=>∃(y0:Sl)(y0_:(List Bool))(sy0_:Sl)(Fy0_:Frag),v=(Value.tuple #[])∧Fo=[bx g1 47 [(vs sy0_)],Fy0_,bx g2 83 [(vs x2)],bx g3 87 [(Value.func (.func 37) #[] #[(Value.pointer (some ⟨g1,0,none⟩)),(Value.pointer (some ⟨g2,0,none⟩)),(Value.pointer (some ⟨g3,0,none⟩)),(Value.pointer (some ⟨g4,0,none⟩))])],bx g4 30 (g8 x4)]∧RowL 4 1 L8 sy0_ y0_ Fy0_∧K y0 y0_ H') noQE
def a3o(x0:f7)(H:Hp)(K:Sl→Int→Hp→Prop):Prop:=
 Ct pG 12 [(Value.agg (g8 x0).toArray)] H [] (fun v H' Fo=>∃(r0:Sl)(r1:Int),v=(Value.tuple #[(vs r0),(vi r1)])∧Fo=[]∧K r0 r1 H') noQE
def a3p(x0:Int)(x1:Sl)(x1_:(List Bool))(x2:Sl)(x3:f7)(x5:Sl)(x5_:(List Int))(H:Hp)(K:Sl→(List Bool)→Sl→(List Int)→Hp→Prop):Prop:=
 ∀(g1 g2 g3 g4 g5:Nat),∀(sx1_:Sl)(Fx1_:Frag)(sx5_:Sl)(Fx5_:Frag),RowL 4 1 L8 sx1_ x1_ Fx1_→RowL 3 1 r9 sx5_ x5_ Fx5_→Ct pG 38 [(vi x0),(Value.pointer (some ⟨g1,0,none⟩)),(Value.pointer (some ⟨g2,0,none⟩)),(Value.pointer (some ⟨g3,0,none⟩)),(Value.pointer (some ⟨g4,0,none⟩)),(Value.pointer (some ⟨g5,0,none⟩))] H [bx g1 47 [(vs sx1_)],Fx1_,bx g2 83 [(vs x2)],bx g3 30 (g8 x3),bx g4 87 [(Value.func (.func 38) #[] #[(Value.pointer (some ⟨g1,0,none⟩)),(Value.pointer (some ⟨g2,0,none⟩)),(Value.pointer (some ⟨g3,0,none⟩)),(Value.pointer (some ⟨g4,0,none⟩)),(Value.pointer (some ⟨g5,0,none⟩))])],bx g5 44 [(vs sx5_)],Fx5_] (fun v H' Fo=>∃(y0:Sl)(y0_:(List Bool))(y1:Sl)(y1_:(List Int))(sy0_:Sl)(Fy0_:Frag)(sy1_:Sl)(Fy1_:Frag),v=(Value.tuple #[])∧Fo=[bx g1 47 [(vs sy0_)],Fy0_,bx g2 83 [(vs x2)],bx g3 30 (g8 x3),bx g4 87 [(Value.func (.func 38) #[] #[(Value.pointer (some ⟨g1,0,none⟩)),(Value.pointer (some ⟨g2,0,none⟩)),(Value.pointer (some ⟨g3,0,none⟩)),(Value.pointer (some ⟨g4,0,none⟩)),(Value.pointer (some ⟨g5,0,none⟩))])],bx g5 44 [(vs sy1_)],Fy1_]∧RowL 4 1 L8 sy0_ y0_ Fy0_∧RowL 3 1 r9 sy1_ y1_ Fy1_∧K y0 y0_ y1 y1_ H') noQE
def a4b(x0:(List Int))(H:Hp)(K:(List Int)→Hp→Prop):Prop:=
 ∀(sx0:Sl)(Fx0:Frag),RowL 3 1 r9 sx0 x0 Fx0→Ct pG 39 [(vs sx0)] H [Fx0] (fun v H' Fo=>∃(y0:(List Int))(Fy0:Frag),v=(Value.tuple #[])∧Fo=[Fy0]∧RowL 3 1 r9 sx0 y0 Fy0∧K y0 H') noQE
def a1V(x0:f7)(H:Hp)(K:Sl→Int→Hp→Prop):Prop:=
 Ct pG 14 [(Value.agg (g8 x0).toArray)] H [] (fun v H' Fo=>∃(r0:Sl)(r1:Int),v=(Value.tuple #[(vs r0),(vi r1)])∧Fo=[]∧K r0 r1 H') noQE
def a4T(x0:f7)(H:Hp)(K:Sl→Int→Hp→Prop):Prop:=
 Ct pG 13 [(Value.agg (g8 x0).toArray)] H [] (fun v H' Fo=>∃(r0:Sl)(r1:Int),v=(Value.tuple #[(vs r0),(vi r1)])∧Fo=[]∧K r0 r1 H') noQE
def a3q(x0:Sl)(x1:Sl)(H:Hp)(K:Bool→Hp→Prop):Prop:=
 Ct pG 31 [(vs x0),(vs x1)] H [] (fun v H' Fo=>∃(r0:Bool),v=(vB r0)∧Fo=[]∧K r0 H') noQE
def a3r(x0:Sl)(x1:Sl)(H:Hp)(K:Bool→Hp→Prop):Prop:=
 Ct pG 32 [(vs x0),(vs x1)] H [] (fun v H' Fo=>∃(r0:Bool),v=(vB r0)∧Fo=[]∧K r0 H') noQE
def a1l(x0:f7)(x1:f7)(H:Hp)(K:Bool→Hp→Prop):Prop:=
 Ct pG 8 [(Value.agg (g8 x0).toArray),(Value.agg (g8 x1).toArray)] H [] (fun v H' Fo=>∃(r0:Bool),v=(vB r0)∧Fo=[]∧K r0 H') noQE
def a1m(x0:f7)(x1:Int)(H:Hp)(K:Sl→Hp→Prop):Prop:=
 Ct pG 17 [(Value.agg (g8 x0).toArray),(vi x1)] H [] (fun v H' Fo=>∃(r0:Sl),v=(vs r0)∧Fo=[]∧K r0 H') noQE
def a1i(x0:f7)(x1:Int)(H:Hp)(K:Bool→Hp→Prop):Prop:=
 Ct pG 4 [(Value.agg (g8 x0).toArray),(vi x1)] H [] (fun v H' Fo=>∃(r0:Bool),v=(vB r0)∧Fo=[]∧K r0 H') noQE
def a7A(x0:E6)(x1:Int)(H:Hp)(K:Sl→Int→Hp→Prop):Prop:=
 Ct pG 44 [(Value.agg (C7 x0).toArray),(vi x1)] H [] (fun v H' Fo=>∃(r0:Sl)(r1:Int),v=(Value.tuple #[(vs r0),(vi r1)])∧Fo=[]∧K r0 r1 H') noQE
def a8T(x0:E6)(H:Hp)(K:Sl→Int→Hp→Prop):Prop:=
 Ct pG 21 [(Value.agg (C7 x0).toArray)] H [] (fun v H' Fo=>∃(r0:Sl)(r1:Int),v=(Value.tuple #[(vs r0),(vi r1)])∧Fo=[]∧K r0 r1 H') noQE
def a7S(x0:E6)(H:Hp)(K:Sl→Int→Hp→Prop):Prop:=
 Ct pG 22 [(Value.agg (C7 x0).toArray)] H [] (fun v H' Fo=>∃(r0:Sl)(r1:Int),v=(Value.tuple #[(vs r0),(vi r1)])∧Fo=[]∧K r0 r1 H') noQE
def G8(x0:i4)(f:(List d5))(H:Hp)(K:Int→i4→(List d5)→Hp→Prop):Prop:=
 ∀(g0:Nat),∀(a:Sl)(b:Frag),RowL 40 10 i5 a f b→Ct pG 23 [(Value.pointer (some ⟨g0,0,none⟩))] H [bx g0 68 (u5 x0 a),b] (fun v H' Fo=>∃(r0:Int)(y0:i4)(c:(List d5))(d:Sl)(e:Frag),v=(vi r0)∧Fo=[bx g0 68 (u5 y0 d),e]∧RowL 40 10 i5 d c e∧K r0 y0 c H') noQE
def a0t(x0:i4)(c:(List d5))(x1:v6)(H:Hp)(K:m3→Bool→Hp→Prop):Prop:=
 ∀(g0:Nat),∀(a:Sl)(b:Frag),RowL 40 10 i5 a c b→Ct pG 96 [(Value.pointer (some ⟨g0,0,none⟩)),(Value.agg (q8 x1).toArray)] H [bx g0 68 (u5 x0 a),b] (fun v H' Fo=>∃(r0:m3)(r1:Bool),v=(Value.tuple #[(Value.agg (i7 r0).toArray),(vB r1)])∧Fo=[bx g0 68 (u5 x0 a),b]∧K r0 r1 H') noQE
def E0(x0:i4)(f:(List d5))(x1:d5)(H:Hp)(K:i4→(List d5)→Hp→Prop):Prop:=
 ∀(g0:Nat),∀(a:Sl)(b:Frag),RowL 40 10 i5 a f b→Ct pG 69 [(Value.pointer (some ⟨g0,0,none⟩)),(Value.agg (i5 x1).toArray)] H [bx g0 68 (u5 x0 a),b] (fun v H' Fo=>∃(y0:i4)(c:(List d5))(d:Sl)(e:Frag),v=(Value.tuple #[])∧Fo=[bx g0 68 (u5 y0 d),e]∧RowL 40 10 i5 d c e∧K y0 c H') noQE
def a6l(x0:Int)(H:Hp)(K:Int→Hp→Prop):Prop:=
 Ct pG 110 [(vi x0)] H [] (fun v H' Fo=>∃(r0:Int),v=(vi r0)∧Fo=[]∧K r0 H') noQE
def O3(x0:Int)(x1:Int)(x2:Int)(H:Hp)(K:d5→Hp→Prop):Prop:=
 Ct pG 67 [(vi x0),(vi x1),(vi x2)] H [] (fun v H' Fo=>∃(r0:d5),v=(Value.agg (i5 r0).toArray)∧Fo=[]∧K r0 H') noQE
def a3s(x0:i4)(f:(List d5))(x1:Int)(H:Hp)(K:Int→i4→(List d5)→Hp→Prop):Prop:=
 ∀(g0:Nat),∀(a:Sl)(b:Frag),RowL 40 10 i5 a f b→Ct pG 111 [(Value.pointer (some ⟨g0,0,none⟩)),(vi x1)] H [bx g0 68 (u5 x0 a),b] (fun v H' Fo=>∃(r0:Int)(y0:i4)(c:(List d5))(d:Sl)(e:Frag),v=(vi r0)∧Fo=[bx g0 68 (u5 y0 d),e]∧RowL 40 10 i5 d c e∧K r0 y0 c H') noQE
def R9(x0:i4)(f:(List d5))(x1:v6)(x2:Int)(x3:Int)(H:Hp)(K:m3→Int→i4→(List d5)→Hp→Prop):Prop:=
 ∀(g0:Nat),∀(a:Sl)(b:Frag),RowL 40 10 i5 a f b→Ct pG 98 [(Value.pointer (some ⟨g0,0,none⟩)),(Value.agg (q8 x1).toArray),(vi x2),(vi x3)] H [bx g0 68 (u5 x0 a),b] (fun v H' Fo=>∃(r0:m3)(r1:Int)(y0:i4)(c:(List d5))(d:Sl)(e:Frag),v=(Value.tuple #[(Value.agg (i7 r0).toArray),(vi r1)])∧Fo=[bx g0 68 (u5 y0 d),e]∧RowL 40 10 i5 d c e∧K r0 r1 y0 c H') noQE
def a1W(x0:i4)(c:(List d5))(x1:m3)(x2:Int)(H:Hp)(K:Int→Hp→Prop):Prop:=
 ∀(g0:Nat),∀(a:Sl)(b:Frag),RowL 40 10 i5 a c b→Ct pG 99 [(Value.pointer (some ⟨g0,0,none⟩)),(Value.agg (i7 x1).toArray),(vi x2)] H [bx g0 68 (u5 x0 a),b] (fun v H' Fo=>∃(r0:Int),v=(vi r0)∧Fo=[bx g0 68 (u5 x0 a),b]∧K r0 H') noQE
def W8(x0:i4)(f:(List d5))(x1:Sl)(x2:Int)(x3:Int)(H:Hp)(K:m3→m3→Int→i4→(List d5)→Hp→Prop):Prop:=
 ∀(g0:Nat),∀(a:Sl)(b:Frag),RowL 40 10 i5 a f b→Ct pG 68 [(Value.pointer (some ⟨g0,0,none⟩)),(vs x1),(vi x2),(vi x3)] H [bx g0 68 (u5 x0 a),b] (fun v H' Fo=>∃(r0:m3)(r1:m3)(r2:Int)(y0:i4)(c:(List d5))(d:Sl)(e:Frag),v=(Value.tuple #[(Value.agg (i7 r0).toArray),(Value.agg (i7 r1).toArray),(vi r2)])∧Fo=[bx g0 68 (u5 y0 d),e]∧RowL 40 10 i5 d c e∧K r0 r1 r2 y0 c H') noQE
def a0N(x0:i4)(f:(List d5))(x1:v6)(x2:Int)(x3:Int)(x4:Int)(x5:Int)(H:Hp)(K:i4→(List d5)→Hp→Prop):Prop:=
 ∀(g0:Nat),∀(a:Sl)(b:Frag),RowL 40 10 i5 a f b→Ct pG 97 [(Value.pointer (some ⟨g0,0,none⟩)),(Value.agg (q8 x1).toArray),(vi x2),(vi x3),(vi x4),(vi x5)] H [bx g0 68 (u5 x0 a),b] (fun v H' Fo=>∃(y0:i4)(c:(List d5))(d:Sl)(e:Frag),v=(Value.tuple #[])∧Fo=[bx g0 68 (u5 y0 d),e]∧RowL 40 10 i5 d c e∧K y0 c H') noQE
def a1X(x0:i4)(f:(List d5))(x1:Int)(x2:v6)(x3:Int)(x4:Int)(H:Hp)(K:i4→(List d5)→Hp→Prop):Prop:=
 ∀(g0:Nat),∀(a:Sl)(b:Frag),RowL 40 10 i5 a f b→Ct pG 66 [(Value.pointer (some ⟨g0,0,none⟩)),(vi x1),(Value.agg (q8 x2).toArray),(vi x3),(vi x4)] H [bx g0 68 (u5 x0 a),b] (fun v H' Fo=>∃(y0:i4)(c:(List d5))(d:Sl)(e:Frag),v=(Value.tuple #[])∧Fo=[bx g0 68 (u5 y0 d),e]∧RowL 40 10 i5 d c e∧K y0 c H') noQE
def S5(x0:i4)(f:(List d5))(x1:Sl)(x2:Int)(H:Hp)(K:Int→i4→(List d5)→Hp→Prop):Prop:=
 ∀(g0:Nat),∀(a:Sl)(b:Frag),RowL 40 10 i5 a f b→Ct pG 70 [(Value.pointer (some ⟨g0,0,none⟩)),(vs x1),(vi x2)] H [bx g0 68 (u5 x0 a),b] (fun v H' Fo=>∃(r0:Int)(y0:i4)(c:(List d5))(d:Sl)(e:Frag),v=(vi r0)∧Fo=[bx g0 68 (u5 y0 d),e]∧RowL 40 10 i5 d c e∧K r0 y0 c H') noQE
def E5(x0:i4)(f:(List d5))(x1:B5)(x2:Int)(x3:Int)(x4:Int)(H:Hp)(K:i4→(List d5)→Hp→Prop):Prop:=
 ∀(g0:Nat),∀(a:Sl)(b:Frag),RowL 40 10 i5 a f b→Ct pG 71 [(Value.pointer (some ⟨g0,0,none⟩)),(Value.agg (t6 x1).toArray),(vi x2),(vi x3),(vi x4)] H [bx g0 68 (u5 x0 a),b] (fun v H' Fo=>∃(y0:i4)(c:(List d5))(d:Sl)(e:Frag),v=(Value.tuple #[])∧Fo=[bx g0 68 (u5 y0 d),e]∧RowL 40 10 i5 d c e∧K y0 c H') noQE
def a3t(x0:i4)(f:(List d5))(x1:B0)(x2:Int)(x3:Int)(H:Hp)(K:i4→(List d5)→Hp→Prop):Prop:=
 ∀(g0:Nat),∀(a:Sl)(b:Frag),RowL 40 10 i5 a f b→Ct pG 45 [(Value.pointer (some ⟨g0,0,none⟩)),(Value.agg (A8 x1).toArray),(vi x2),(vi x3)] H [bx g0 68 (u5 x0 a),b] (fun v H' Fo=>∃(y0:i4)(c:(List d5))(d:Sl)(e:Frag),v=(Value.tuple #[])∧Fo=[bx g0 68 (u5 y0 d),e]∧RowL 40 10 i5 d c e∧K y0 c H') noQE
def P8(x0:i4)(f:(List d5))(x1:Sl)(x2:Int)(x3:Int)(H:Hp)(K:i4→(List d5)→Hp→Prop):Prop:=
 ∀(g0:Nat),∀(a:Sl)(b:Frag),RowL 40 10 i5 a f b→Ct pG 24 [(Value.pointer (some ⟨g0,0,none⟩)),(vs x1),(vi x2),(vi x3)] H [bx g0 68 (u5 x0 a),b] (fun v H' Fo=>∃(y0:i4)(c:(List d5))(d:Sl)(e:Frag),v=(Value.tuple #[])∧Fo=[bx g0 68 (u5 y0 d),e]∧RowL 40 10 i5 d c e∧K y0 c H') noQE
def a7T(x0:o0)(H:Hp)(K:g7→Hp→Prop):Prop:=
 Ct pG 120 [(Value.agg (m2 x0).toArray)] H [] (fun v H' Fo=>∃(r0:g7),v=(K8 r0)∧Fo=[]∧K r0 H') noQE
def L9(x0:Sl)(H:Hp)(K:Sl→Hp→Prop):Prop:=
 Ct pG 119 [(vs x0),(fC 120)] H [] (fun v H' Fo=>∃(r0:Sl),v=(vs r0)∧Fo=[]∧K r0 H') noQE
def a7U(x0:B0)(H:Hp)(K:g7→Hp→Prop):Prop:=
 Ct pG 122 [(Value.agg (A8 x0).toArray)] H [] (fun v H' Fo=>∃(r0:g7),v=(K8 r0)∧Fo=[]∧K r0 H') noQE
def C8(x0:Sl)(H:Hp)(K:Sl→Hp→Prop):Prop:=
 Ct pG 121 [(vs x0),(fC 122)] H [] (fun v H' Fo=>∃(r0:Sl),v=(vs r0)∧Fo=[]∧K r0 H') noQE
def S6(x1:Int)(H:Hp)(K:(List g7)→Hp→Prop):Prop:=
 Ct pG 126 [(nS),(vi x1)] H [] (fun v H' Fo=>∃(r0:(List g7))(sr0:Sl)(Fr0:Frag),v=(vs sr0)∧Fo=[Fr0]∧RowL 182 1 z6 sr0 r0 Fr0∧K r0 H') noQE
def G6(x0:Sl)(H:Hp)(K:Sl→Hp→Prop):Prop:=
 Ct pG 118 [(vs x0)] H [] (fun v H' Fo=>∃(r0:Sl),v=(vs r0)∧Fo=[]∧K r0 H') noQE
def a1Y(x0:g7)(H:Hp)(K:ByteArray→Bool→Hp→Prop):Prop:=
 Ct pG 127 [(K8 x0)] H [] (fun v H' Fo=>∃(r0:ByteArray)(r1:Bool),v=(Value.tuple #[(Value.string r0),(vB r1)])∧Fo=[]∧K r0 r1 H') noQE
def N7(x0:Int)(x1:Int)(x2:Int)(H:Hp)(K:Bool→Hp→Prop):Prop:=
 ∀(g2:Nat),Ct pG 138 [(Value.int .i32 x0),(Value.int .i32 x1),(Value.pointer (some ⟨g2,0,none⟩))] H [bx g2 21 [(Value.int .i32 x2)]] (fun v H' Fo=>∃(r0:Bool),v=(vB r0)∧Fo=[bx g2 21 [(Value.int .i32 x2)]]∧K r0 H') noQE
def a4x(x0:Int)(H:Hp)(K:Int→Hp→Prop):Prop:=
 Ct pG 134 [(Value.int .i32 x0)] H [] (fun v H' Fo=>∃(r0:Int),v=(vi r0)∧Fo=[]∧K r0 H') noQE
def a6m(x0:Int)(H:Hp)(K:Bool→Hp→Prop):Prop:=
 Ct pG 133 [(Value.int .i32 x0)] H [] (fun v H' Fo=>∃(r0:Bool),v=(vB r0)∧Fo=[]∧K r0 H') noQE
def a6f(x0:ByteArray)(H:Hp)(K:Bool→Hp→Prop):Prop:=
 Ct pG 130 [(Value.string x0)] H [] (fun v H' Fo=>∃(r0:Bool),v=(vB r0)∧Fo=[]∧K r0 H') noQE
def a0B(x0:ByteArray)(H:Hp)(K:Int→Hp→Prop):Prop:=
 Ct pG 137 [(Value.string x0)] H [] (fun v H' Fo=>∃(r0:Int),v=(vi r0)∧Fo=[]∧K r0 H') noQE
def a7k(x0:ByteArray)(H:Hp)(K:Bool→Hp→Prop):Prop:=
 Ct pG 131 [(Value.string x0)] H [] (fun v H' Fo=>∃(r0:Bool),v=(vB r0)∧Fo=[]∧K r0 H') noQE
def a7l(x0:ByteArray)(H:Hp)(K:Bool→Hp→Prop):Prop:=
 Ct pG 132 [(Value.string x0)] H [] (fun v H' Fo=>∃(r0:Bool),v=(vB r0)∧Fo=[]∧K r0 H') noQE
def a5d(x0:ByteArray)(H:Hp)(K:Bool→Hp→Prop):Prop:=
 Ct pG 128 [(Value.string x0)] H [] (fun v H' Fo=>∃(r0:Bool),v=(vB r0)∧Fo=[]∧K r0 H') noQE
def a1v(x0:(List ByteArray))(x1:ByteArray)(H:Hp)(K:Int→Hp→Prop):Prop:=
 ∀(sx0:Sl)(Fx0:Frag),RowL 9 1 D4 sx0 x0 Fx0→Ct pG 135 [(vs sx0),(Value.string x1)] H [Fx0] (fun v H' Fo=>∃(r0:Int),v=(vi r0)∧Fo=[Fx0]∧K r0 H') noQE
def T8(x0:(List ByteArray))(x1:ByteArray)(H:Hp)(K:Bool→Hp→Prop):Prop:=
 ∀(sx0:Sl)(Fx0:Frag),RowL 9 1 D4 sx0 x0 Fx0→Ct pG 129 [(vs sx0),(Value.string x1)] H [Fx0] (fun v H' Fo=>∃(r0:Bool),v=(vB r0)∧Fo=[Fx0]∧K r0 H') noQE
def a2M(x0:o4)(f:(List ByteArray))(x1:g7)(x2:Int)(H:Hp)(K:Bool→o4→(List ByteArray)→Hp→Prop):Prop:=
 ∀(g0:Nat),∀(a:Sl)(b:Frag),RowL 9 1 D4 a f b→Ct pG 125 [(Value.pointer (some ⟨g0,0,none⟩)),(K8 x1),(vi x2)] H [bx g0 169 (a1u x0 a),b] (fun v H' Fo=>∃(r0:Bool)(y0:o4)(c:(List ByteArray))(d:Sl)(e:Frag),v=(vB r0)∧Fo=[bx g0 169 (a1u y0 d),e]∧RowL 9 1 D4 d c e∧K r0 y0 c H') noQE
def a0q(x0:Sl)(x1:Int)(x2:o4)(f:(List ByteArray))(H:Hp)(K:Bool→o4→(List ByteArray)→Hp→Prop):Prop:=
 ∀(g2 g2b g3:Nat),∀(a:Sl)(b:Frag),RowL 9 1 D4 a f b→Ct pG 124 [(vs x0),(vi x1),(Value.pointer (some ⟨g2,0,none⟩)),(Value.pointer (some ⟨g3,0,none⟩))] H [bx g2 170 [(Value.pointer (some ⟨g2b,0,none⟩))],bx g2b 169 (a1u x2 a),b,bx g3 189 [(Value.func (.func 124) #[] #[(Value.pointer (some ⟨g2,0,none⟩)),(Value.pointer (some ⟨g3,0,none⟩))])]] (fun v H' Fo=>∃(r0:Bool)(y0:o4)(c:(List ByteArray))(d:Sl)(e:Frag),v=(vB r0)∧Fo=[bx g2 170 [(Value.pointer (some ⟨g2b,0,none⟩))],bx g2b 169 (a1u y0 d),e,bx g3 189 [(Value.func (.func 124) #[] #[(Value.pointer (some ⟨g2,0,none⟩)),(Value.pointer (some ⟨g3,0,none⟩))])]]∧RowL 9 1 D4 d c e∧K r0 y0 c H') noQE
def a5G(x0:Sl)(H:Hp)(K:o4→Hp→Prop):Prop:=
 Ct pG 117 [(vs x0)] H [] (fun v H' Fo=>∃(r0:o4)(gr0:Nat),v=(Value.pointer (some ⟨gr0,0,none⟩))∧Fo=[bx gr0 169 (b1x r0)]∧K r0 H') noQE
def a7m(x0:E6)(H:Hp)(K:o4→Hp→Prop):Prop:=
 Ct pG 107 [(Value.agg (C7 x0).toArray)] H [] (fun v H' Fo=>∃(r0:o4)(gr0:Nat),v=(Value.pointer (some ⟨gr0,0,none⟩))∧Fo=[bx gr0 169 (b1x r0)]∧K r0 H') noQE
def a6n(x0:E6)(H:Hp)(K:Int→Hp→Prop):Prop:=
 Ct pG 92 [(Value.agg (C7 x0).toArray)] H [] (fun v H' Fo=>∃(r0:Int),v=(vi r0)∧Fo=[]∧K r0 H') noQE
def a7w(x0:Sl)(H:Hp)(K:(Option Nat)→ByteArray→Int→Hp→Prop):Prop:=
 Ct pG 93 [(vs x0)] H [] (fun v H' Fo=>∃(r0:(Option Nat))(r1:ByteArray)(r2:Int),v=(Value.tuple #[(Value.map r0),(Value.string r1),(vi r2)])∧Fo=[]∧K r0 r1 r2 H') noQE
def U9(x0:m8)(f:(List i6))(x1:v6)(H:Hp)(K:m8→(List i6)→Hp→Prop):Prop:=
 ∀(g0:Nat),∀(a:Sl)(b:Frag),RowL 158 2 D9 a f b→Ct pG 109 [(Value.pointer (some ⟨g0,0,none⟩)),(Value.agg (q8 x1).toArray)] H [bx g0 155 [(vs a)],b] (fun v H' Fo=>∃(y0:m8)(c:(List i6))(d:Sl)(e:Frag),v=(Value.tuple #[])∧Fo=[bx g0 155 [(vs d)],e]∧RowL 158 2 D9 d c e∧K y0 c H') noQE
def a0O(x0:m8)(f:(List i6))(x1:B5)(H:Hp)(K:m8→(List i6)→Hp→Prop):Prop:=
 ∀(g0:Nat),∀(a:Sl)(b:Frag),RowL 158 2 D9 a f b→Ct pG 108 [(Value.pointer (some ⟨g0,0,none⟩)),(Value.agg (t6 x1).toArray)] H [bx g0 155 [(vs a)],b] (fun v H' Fo=>∃(y0:m8)(c:(List i6))(d:Sl)(e:Frag),v=(Value.tuple #[])∧Fo=[bx g0 155 [(vs d)],e]∧RowL 158 2 D9 d c e∧K y0 c H') noQE
def T7(x0:m8)(f:(List i6))(x1:Sl)(H:Hp)(K:m8→(List i6)→Hp→Prop):Prop:=
 ∀(g0:Nat),∀(a:Sl)(b:Frag),RowL 158 2 D9 a f b→Ct pG 94 [(Value.pointer (some ⟨g0,0,none⟩)),(vs x1)] H [bx g0 155 [(vs a)],b] (fun v H' Fo=>∃(y0:m8)(c:(List i6))(d:Sl)(e:Frag),v=(Value.tuple #[])∧Fo=[bx g0 155 [(vs d)],e]∧RowL 158 2 D9 d c e∧K y0 c H') noQE
def a8j(x0:E6)(H:Hp)(K:ByteArray→Int→Hp→Prop):Prop:=
 Ct pG 61 [(Value.agg (C7 x0).toArray)] H [] (fun v H' Fo=>∃(r0:ByteArray)(r1:Int),v=(Value.tuple #[(Value.string r0),(vi r1)])∧Fo=[]∧K r0 r1 H') noQE
def a8U(x0:o0)(H:Hp)(K:Int→Hp→Prop):Prop:=
 Ct pG 65 [(Value.agg (m2 x0).toArray)] H [] (fun v H' Fo=>∃(r0:Int),v=(vi r0)∧Fo=[]∧K r0 H') noQE
def a7i(x0:X6)(H:Hp)(K:Bool→Hp→Prop):Prop:=
 Ct pG 155 [(Value.agg (m2 x0.a0L).toArray)] H [] (fun v H' Fo=>∃(r0:Bool),v=(vB r0)∧Fo=[]∧K r0 H') noQE
def a6D(x0:X6)(H:Hp)(K:Sl→Hp→Prop):Prop:=
 Ct pG 156 [(Value.agg (m2 x0.a0L).toArray)] H [] (fun v H' Fo=>∃(r0:Sl),v=(vs r0)∧Fo=[]∧K r0 H') noQE
def a4A(x0:T2)(H:Hp)(K:Bool→Hp→Prop):Prop:=
 Ct pG 157 [(Value.agg (A8 x0.i8).toArray)] H [] (fun v H' Fo=>∃(r0:Bool),v=(vB r0)∧Fo=[]∧K r0 H') noQE
def a7V(x0:B5)(H:Hp)(K:g7→Hp→Prop):Prop:=
 Ct pG 160 [(Value.agg (t6 x0).toArray)] H [] (fun v H' Fo=>∃(r0:g7),v=(K8 r0)∧Fo=[]∧K r0 H') noQE
def J0(x0:Sl)(H:Hp)(K:Sl→Hp→Prop):Prop:=
 Ct pG 159 [(vs x0),(fC 160)] H [] (fun v H' Fo=>∃(r0:Sl),v=(vs r0)∧Fo=[]∧K r0 H') noQE
def a7W(x0:v6)(H:Hp)(K:g7→Hp→Prop):Prop:=
 Ct pG 162 [(Value.agg (q8 x0).toArray)] H [] (fun v H' Fo=>∃(r0:g7),v=(K8 r0)∧Fo=[]∧K r0 H') noQE
def C9(x0:Sl)(H:Hp)(K:Sl→Hp→Prop):Prop:=
 Ct pG 161 [(vs x0),(fC 162)] H [] (fun v H' Fo=>∃(r0:Sl),v=(vs r0)∧Fo=[]∧K r0 H') noQE
def a6E(x0:T2)(H:Hp)(K:Sl→Hp→Prop):Prop:=
 Ct pG 158 [(Value.agg (A8 x0.i8).toArray)] H [] (fun v H' Fo=>∃(r0:Sl),v=(vs r0)∧Fo=[]∧K r0 H') noQE
def a4B(x0:O6)(H:Hp)(K:Bool→Hp→Prop):Prop:=
 Ct pG 163 [(Value.agg (q8 x0.A4).toArray)] H [] (fun v H' Fo=>∃(r0:Bool),v=(vB r0)∧Fo=[]∧K r0 H') noQE
def a6F(x0:O6)(H:Hp)(K:Sl→Hp→Prop):Prop:=
 Ct pG 164 [(Value.agg (q8 x0.A4).toArray)] H [] (fun v H' Fo=>∃(r0:Sl),v=(vs r0)∧Fo=[]∧K r0 H') noQE
def a4C(x0:T3)(H:Hp)(K:Bool→Hp→Prop):Prop:=
 Ct pG 166 [(Value.agg (t6 x0.u0).toArray)] H [] (fun v H' Fo=>∃(r0:Bool),v=(vB r0)∧Fo=[]∧K r0 H') noQE
def a6G(x0:T3)(H:Hp)(K:Sl→Hp→Prop):Prop:=
 Ct pG 167 [(Value.agg (t6 x0.u0).toArray)] H [] (fun v H' Fo=>∃(r0:Sl),v=(vs r0)∧Fo=[]∧K r0 H') noQE
def a5H(x:g7)(H:Hp)(K:Bool→Hp→Prop):Prop:=match x with
 | .nil=>False
 | .N9 y=>a7i y H K
 | .L4 y=>a4A y H K
 | .K7 y=>a4B y H K
 | .O7 y=>a4C y H K
def a5t(x:g7)(H:Hp)(K:Sl→Hp→Prop):Prop:=match x with
 | .nil=>False
 | .N9 y=>a6D y H K
 | .L4 y=>a6E y H K
 | .K7 y=>a6F y H K
 | .O7 y=>a6G y H K
theorem b1y {E : Pan} {w0 w : World} {ps : Nat → Prop} {H0 H : Hp} {Fr : List Frag} {K : RT} {Kc : Bool → Hp → Prop} {x : g7} (I : Inv w0 ps H0 H Fr w) (h : a5H x H Kc) (hq : ∀ (r0 : Bool) (H' : Hp) (w' : World), Inv w0 ps H0 H' Fr w' → Hle H H' → (∀ i, i < w.heap.size → ¬ inF [] i → w'.heap[i]? = w.heap[i]?) → Kc r0 H' → K (vB r0) w') : oP E (xInvoke (K8 x) "gnomon/tree.form" []) w K := by
 cases x with
 | nil=>exact h.elim
 | N9 y=>exact a4X (f:=155) (args:=[(Value.agg (m2 y.a0L).toArray)].toArray) (by kernel_rfl) (a4w (Fi:=[]) I h (fun v H' Fo w' I' l hk hq'=>by obtain ⟨r0,rfl,rfl,hK⟩:=hq';exact hq r0 H' w' I' l hk hK) (fun _ _ _ _ _ q=>q.elim))
 | L4 y=>exact a4X (f:=157) (args:=[(Value.agg (A8 y.i8).toArray)].toArray) (by kernel_rfl) (a4w (Fi:=[]) I h (fun v H' Fo w' I' l hk hq'=>by obtain ⟨r0,rfl,rfl,hK⟩:=hq';exact hq r0 H' w' I' l hk hK) (fun _ _ _ _ _ q=>q.elim))
 | K7 y=>exact a4X (f:=163) (args:=[(Value.agg (q8 y.A4).toArray)].toArray) (by kernel_rfl) (a4w (Fi:=[]) I h (fun v H' Fo w' I' l hk hq'=>by obtain ⟨r0,rfl,rfl,hK⟩:=hq';exact hq r0 H' w' I' l hk hK) (fun _ _ _ _ _ q=>q.elim))
 | O7 y=>exact a4X (f:=166) (args:=[(Value.agg (t6 y.u0).toArray)].toArray) (by kernel_rfl) (a4w (Fi:=[]) I h (fun v H' Fo w' I' l hk hq'=>by obtain ⟨r0,rfl,rfl,hK⟩:=hq';exact hq r0 H' w' I' l hk hK) (fun _ _ _ _ _ q=>q.elim))
theorem b1l {E : Pan} {w0 w : World} {ps : Nat → Prop} {H0 H : Hp} {Fr : List Frag} {K : RT} {Kc : Sl → Hp → Prop} {x : g7} (I : Inv w0 ps H0 H Fr w) (h : a5t x H Kc) (hq : ∀ (r0 : Sl) (H' : Hp) (w' : World), Inv w0 ps H0 H' Fr w' → Hle H H' → (∀ i, i < w.heap.size → ¬ inF [] i → w'.heap[i]? = w.heap[i]?) → Kc r0 H' → K (vs r0) w') : oP E (xInvoke (K8 x) "gnomon/tree.parts" []) w K := by
 cases x with
 | nil=>exact h.elim
 | N9 y=>exact a4X (f:=156) (args:=[(Value.agg (m2 y.a0L).toArray)].toArray) (by kernel_rfl) (a4w (Fi:=[]) I h (fun v H' Fo w' I' l hk hq'=>by obtain ⟨r0,rfl,rfl,hK⟩:=hq';exact hq r0 H' w' I' l hk hK) (fun _ _ _ _ _ q=>q.elim))
 | L4 y=>exact a4X (f:=158) (args:=[(Value.agg (A8 y.i8).toArray)].toArray) (by kernel_rfl) (a4w (Fi:=[]) I h (fun v H' Fo w' I' l hk hq'=>by obtain ⟨r0,rfl,rfl,hK⟩:=hq';exact hq r0 H' w' I' l hk hK) (fun _ _ _ _ _ q=>q.elim))
 | K7 y=>exact a4X (f:=164) (args:=[(Value.agg (q8 y.A4).toArray)].toArray) (by kernel_rfl) (a4w (Fi:=[]) I h (fun v H' Fo w' I' l hk hq'=>by obtain ⟨r0,rfl,rfl,hK⟩:=hq';exact hq r0 H' w' I' l hk hK) (fun _ _ _ _ _ q=>q.elim))
 | O7 y=>exact a4X (f:=167) (args:=[(Value.agg (t6 y.u0).toArray)].toArray) (by kernel_rfl) (a4w (Fi:=[]) I h (fun v H' Fo w' I' l hk hq'=>by obtain ⟨r0,rfl,rfl,hK⟩:=hq';exact hq r0 H' w' I' l hk hK) (fun _ _ _ _ _ q=>q.elim))
end Go.Proofs.YtaokfhdinhimfaaGreatDoor
