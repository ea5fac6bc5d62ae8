/- Contracts of the program's functions; printed by lift.py off the code. -/
import Derived.Test.YthklmeihgmcljaaGreatDoorzEU1
import Derived.Test.YthklmeihgmcljaaGreatDoorzEG1a
import Derived.Test.YthklmeihgmcljaaGreatDoorzEG1b
import Derived.Test.YthklmeihgmcljaaGreatDoorzEG1c
namespace Go.Proofs.YthklmeihgmcljaaGreatDoor
open Go.RowKit
set_option maxRecDepth 100000
set_option maxHeartbeats 2000000
def K0(x0:ByteArray)(H:Hp)(K:l8→b8→Int→Hp→Prop):Prop:=
 Ct pG 20 [(Value.string x0),(fC 21),(fC 12)] H [] (fun v H' Fo=>∃(r0:l8)(r1:b8)(r2:Int),v=(Value.tuple #[(Value.agg (p5 r0).toArray),(Value.agg (l7 r1).toArray),(vi r2)])∧Fo=[]∧K r0 r1 r2 H') noQE
def a1O(x0:ByteArray)(H:Hp)(K:l8→b8→Int→Hp→Prop):Prop:=
 Ct pG 9 [(Value.string x0)] H [] (fun v H' Fo=>∃(r0:l8)(r1:b8)(r2:Int),v=(Value.tuple #[(Value.agg (p5 r0).toArray),(Value.agg (l7 r1).toArray),(vi r2)])∧Fo=[]∧K r0 r1 r2 H') noQE
def a3L(H:Hp)(K:Bool→Hp→Prop):Prop:=
 Ct pG 8 [] H [] (fun v H' Fo=>∃(r0:Bool),v=(vB r0)∧Fo=[]∧K r0 H') noQE
def B8(x0:a8)(H:Hp)(K:b6→Hp→Prop):Prop:=
 ∀(g0:Nat),Ct pG 63 [(Value.pointer (some ⟨g0,0,none⟩))] H [bx g0 66 (f7 x0)] (fun v H' Fo=>∃(r0:b6),v=(Value.agg (i8 r0).toArray)∧Fo=[bx g0 66 (f7 x0)]∧K r0 H') noQE
def A5(x0:a8)(x1:Int)(H:Hp)(K:a8→Hp→Prop):Prop:=
 ∀(g0:Nat),Ct pG 66 [(Value.pointer (some ⟨g0,0,none⟩)),(vi x1)] H [bx g0 66 (f7 x0)] (fun v H' Fo=>∃(y0:a8),v=(Value.tuple #[])∧Fo=[bx g0 66 (f7 y0)]∧K y0 H') noQE
def a0e(x0:a8)(H:Hp)(K:b8→Int→a8→Hp→Prop):Prop:=
 ∀(g0:Nat),Ct pG 27 [(Value.pointer (some ⟨g0,0,none⟩))] H [bx g0 66 (f7 x0)] (fun v H' Fo=>∃(r0:b8)(r1:Int)(y0:a8),v=(Value.tuple #[(Value.agg (l7 r0).toArray),(vi r1)])∧Fo=[bx g0 66 (f7 y0)]∧K r0 r1 y0 H') noQE
def a2e(x0:d6)(H:Hp)(K:Int→Hp→Prop):Prop:=
 Ct pG 73 [(Value.agg (r7 x0).toArray)] H [] (fun v H' Fo=>∃(r0:Int),v=(vi r0)∧Fo=[]∧K r0 H') noQE
def O5(x0:ByteArray)(x1:Int)(H:Hp)(K:Int→Int→Bool→Hp→Prop):Prop:=
 Ct pG 108 [(Value.string x0),(vi x1)] H [] (fun v H' Fo=>∃(r0:Int)(r1:Int)(r2:Bool),v=(Value.tuple #[(vi r0),(vi r1),(vB r2)])∧Fo=[]∧K r0 r1 r2 H') noQE
def G5(x0:Int)(x1:Int)(x2:Int)(H:Hp)(K:Bool→Hp→Prop):Prop:=
 Ct pG 159 [(vi x0),(vi x1),(vi x2)] H [] (fun v H' Fo=>∃(r0:Bool),v=(vB r0)∧Fo=[]∧K r0 H') noQE
def a0f(x0:Int)(H:Hp)(K:Int→Hp→Prop):Prop:=
 Ct pG 142 [(vi x0)] H [] (fun v H' Fo=>∃(r0:Int),v=(vi r0)∧Fo=[]∧K r0 H') noQE
def a0u(x0:ByteArray)(H:Hp)(K:Bool→Hp→Prop):Prop:=
 Ct pG 111 [(Value.string x0)] H [] (fun v H' Fo=>∃(r0:Bool),v=(vB r0)∧Fo=[]∧K r0 H') noQE
def a1P(x0:ByteArray)(H:Hp)(K:Bool→Hp→Prop):Prop:=
 Ct pG 117 [(Value.string x0)] H [] (fun v H' Fo=>∃(r0:Bool),v=(vB r0)∧Fo=[]∧K r0 H') noQE
def U3(x0:d6)(x1:ByteArray)(x2:Bool)(H:Hp)(K:d6→Hp→Prop):Prop:=
 ∀(g0:Nat),Ct pG 71 [(Value.pointer (some ⟨g0,0,none⟩)),(Value.string x1),(vB x2)] H [bx g0 123 (r7 x0)] (fun v H' Fo=>∃(y0:d6),v=(Value.tuple #[])∧Fo=[bx g0 123 (r7 y0)]∧K y0 H') noQE
def U4(x0:d6)(x1:d9)(H:Hp)(K:d6→Hp→Prop):Prop:=
 ∀(g0:Nat),Ct pG 85 [(Value.pointer (some ⟨g0,0,none⟩)),(Value.agg (g7 x1).toArray)] H [bx g0 123 (r7 x0)] (fun v H' Fo=>∃(y0:d6),v=(Value.tuple #[])∧Fo=[bx g0 123 (r7 y0)]∧K y0 H') noQE
def a0l(x0:d6)(x1:f8)(H:Hp)(K:d6→Hp→Prop):Prop:=
 ∀(g0:Nat),Ct pG 92 [(Value.pointer (some ⟨g0,0,none⟩)),(Value.agg (i7 x1).toArray)] H [bx g0 123 (r7 x0)] (fun v H' Fo=>∃(y0:d6),v=(Value.tuple #[])∧Fo=[bx g0 123 (r7 y0)]∧K y0 H') noQE
def U5(x0:d6)(x1:b9)(H:Hp)(K:d6→Hp→Prop):Prop:=
 ∀(g0:Nat),Ct pG 72 [(Value.pointer (some ⟨g0,0,none⟩)),(Value.agg (m6 x1).toArray)] H [bx g0 123 (r7 x0)] (fun v H' Fo=>∃(y0:d6),v=(Value.tuple #[])∧Fo=[bx g0 123 (r7 y0)]∧K y0 H') noQE
def P8(x0:d7)(x1:Int)(H:Hp)(K:Bool→d7→Hp→Prop):Prop:=
 ∀(g0:Nat),Ct pG 115 [(Value.pointer (some ⟨g0,0,none⟩)),(vi x1)] H [bx g0 120 (r8 x0)] (fun v H' Fo=>∃(r0:Bool)(y0:d7),v=(vB r0)∧Fo=[bx g0 120 (r8 y0)]∧K r0 y0 H') noQE
def U6(x0:d7)(x1:d9)(x2:Int)(H:Hp)(K:d7→Hp→Prop):Prop:=
 ∀(g0:Nat),Ct pG 84 [(Value.pointer (some ⟨g0,0,none⟩)),(Value.agg (g7 x1).toArray),(vi x2)] H [bx g0 120 (r8 x0)] (fun v H' Fo=>∃(y0:d7),v=(Value.tuple #[])∧Fo=[bx g0 120 (r8 y0)]∧K y0 H') noQE
def a0m(x0:d7)(x1:f8)(x2:Int)(H:Hp)(K:d7→Hp→Prop):Prop:=
 ∀(g0:Nat),Ct pG 91 [(Value.pointer (some ⟨g0,0,none⟩)),(Value.agg (i7 x1).toArray),(vi x2)] H [bx g0 120 (r8 x0)] (fun v H' Fo=>∃(y0:d7),v=(Value.tuple #[])∧Fo=[bx g0 120 (r8 y0)]∧K y0 H') noQE
def U7(x0:d7)(x1:b9)(x2:Int)(H:Hp)(K:d7→Hp→Prop):Prop:=
 ∀(g0:Nat),Ct pG 116 [(Value.pointer (some ⟨g0,0,none⟩)),(Value.agg (m6 x1).toArray),(vi x2)] H [bx g0 120 (r8 x0)] (fun v H' Fo=>∃(y0:d7),v=(Value.tuple #[])∧Fo=[bx g0 120 (r8 y0)]∧K y0 H') noQE
def a1b(x0:l8)(H:Hp)(K:d7→Hp→Prop):Prop:=
 Ct pG 70 [(Value.agg (p5 x0).toArray)] H [] (fun v H' Fo=>∃(r0:d7),v=(Value.agg (r8 r0).toArray)∧Fo=[]∧K r0 H') noQE
def a3M(x0:l8)(H:Hp)(K:Int→Hp→Prop):Prop:=
 Ct pG 29 [(Value.agg (p5 x0).toArray)] H [] (fun v H' Fo=>∃(r0:Int),v=(vi r0)∧Fo=[]∧K r0 H') noQE
def a1x(x0:a8)(x1:Int)(H:Hp)(K:b8→Int→Hp→Prop):Prop:=
 ∀(g0:Nat),Ct pG 28 [(Value.pointer (some ⟨g0,0,none⟩)),(vi x1)] H [bx g0 66 (f7 x0)] (fun v H' Fo=>∃(r0:b8)(r1:Int),v=(Value.tuple #[(Value.agg (l7 r0).toArray),(vi r1)])∧Fo=[bx g0 66 (f7 x0)]∧K r0 r1 H') noQE
def o0(x0:a8)(x1:ByteArray)(H:Hp)(K:Bool→Hp→Prop):Prop:=
 ∀(g0:Nat),Ct pG 23 [(Value.pointer (some ⟨g0,0,none⟩)),(Value.string x1)] H [bx g0 66 (f7 x0)] (fun v H' Fo=>∃(r0:Bool),v=(vB r0)∧Fo=[bx g0 66 (f7 x0)]∧K r0 H') noQE
def M5(x0:a8)(H:Hp)(K:Bool→Hp→Prop):Prop:=
 ∀(g0:Nat),Ct pG 25 [(Value.pointer (some ⟨g0,0,none⟩))] H [bx g0 66 (f7 x0)] (fun v H' Fo=>∃(r0:Bool),v=(vB r0)∧Fo=[bx g0 66 (f7 x0)]∧K r0 H') noQE
def q7(x0:a8)(x1:ByteArray)(H:Hp)(K:Bool→a8→Hp→Prop):Prop:=
 ∀(g0:Nat),Ct pG 67 [(Value.pointer (some ⟨g0,0,none⟩)),(Value.string x1)] H [bx g0 66 (f7 x0)] (fun v H' Fo=>∃(r0:Bool)(y0:a8),v=(vB r0)∧Fo=[bx g0 66 (f7 y0)]∧K r0 y0 H') noQE
def t6(x0:a8)(x1:ByteArray)(H:Hp)(K:a8→Hp→Prop):Prop:=
 ∀(g0:Nat),Ct pG 65 [(Value.pointer (some ⟨g0,0,none⟩)),(Value.string x1)] H [bx g0 66 (f7 x0)] (fun v H' Fo=>∃(y0:a8),v=(Value.tuple #[])∧Fo=[bx g0 66 (f7 y0)]∧K y0 H') noQE
def W8(x0:a8)(H:Hp)(K:Bool→Hp→Prop):Prop:=
 ∀(g0:Nat),Ct pG 146 [(Value.pointer (some ⟨g0,0,none⟩))] H [bx g0 66 (f7 x0)] (fun v H' Fo=>∃(r0:Bool),v=(vB r0)∧Fo=[bx g0 66 (f7 x0)]∧K r0 H') noQE
def S5(x0:a8)(x1:Int)(H:Hp)(K:a8→Hp→Prop):Prop:=
 ∀(g0:Nat),Ct pG 114 [(Value.pointer (some ⟨g0,0,none⟩)),(vi x1)] H [bx g0 66 (f7 x0)] (fun v H' Fo=>∃(y0:a8),v=(Value.tuple #[])∧Fo=[bx g0 66 (f7 y0)]∧K y0 H') noQE
def O2(x0:a8)(x1:Int)(H:Hp)(K:d9→a8→Hp→Prop):Prop:=
 ∀(g0:Nat),Ct pG 123 [(Value.pointer (some ⟨g0,0,none⟩)),(vi x1)] H [bx g0 66 (f7 x0)] (fun v H' Fo=>∃(r0:d9)(y0:a8),v=(Value.agg (g7 r0).toArray)∧Fo=[bx g0 66 (f7 y0)]∧K r0 y0 H') noQE
def R3(x0:a8)(H:Hp)(K:Int→Hp→Prop):Prop:=
 ∀(g0:Nat),Ct pG 124 [(Value.pointer (some ⟨g0,0,none⟩))] H [bx g0 66 (f7 x0)] (fun v H' Fo=>∃(r0:Int),v=(vi r0)∧Fo=[bx g0 66 (f7 x0)]∧K r0 H') noQE
def S6(x0:a8)(x1:Int)(H:Hp)(K:d9→a8→Hp→Prop):Prop:=
 ∀(g0:Nat),Ct pG 83 [(Value.pointer (some ⟨g0,0,none⟩)),(vi x1)] H [bx g0 66 (f7 x0)] (fun v H' Fo=>∃(r0:d9)(y0:a8),v=(Value.agg (g7 r0).toArray)∧Fo=[bx g0 66 (f7 y0)]∧K r0 y0 H') noQE
def C7(x0:a8)(x1:Int)(H:Hp)(K:d9→a8→Hp→Prop):Prop:=
 ∀(g0:Nat),Ct pG 37 [(Value.pointer (some ⟨g0,0,none⟩)),(vi x1)] H [bx g0 66 (f7 x0)] (fun v H' Fo=>∃(r0:d9)(y0:a8),v=(Value.agg (g7 r0).toArray)∧Fo=[bx g0 66 (f7 y0)]∧K r0 y0 H') noQE
def a0g(x0:a8)(H:Hp)(K:Int→Hp→Prop):Prop:=
 ∀(g0:Nat),Ct pG 147 [(Value.pointer (some ⟨g0,0,none⟩))] H [bx g0 66 (f7 x0)] (fun v H' Fo=>∃(r0:Int),v=(vi r0)∧Fo=[bx g0 66 (f7 x0)]∧K r0 H') noQE
def T7(x0:a8)(x1:Int)(H:Hp)(K:f8→a8→Hp→Prop):Prop:=
 ∀(g0:Nat),Ct pG 127 [(Value.pointer (some ⟨g0,0,none⟩)),(vi x1)] H [bx g0 66 (f7 x0)] (fun v H' Fo=>∃(r0:f8)(y0:a8),v=(Value.agg (i7 r0).toArray)∧Fo=[bx g0 66 (f7 y0)]∧K r0 y0 H') noQE
def Z1(x0:a8)(x1:Int)(H:Hp)(K:f8→a8→Hp→Prop):Prop:=
 ∀(g0:Nat),Ct pG 90 [(Value.pointer (some ⟨g0,0,none⟩)),(vi x1)] H [bx g0 66 (f7 x0)] (fun v H' Fo=>∃(r0:f8)(y0:a8),v=(Value.agg (i7 r0).toArray)∧Fo=[bx g0 66 (f7 y0)]∧K r0 y0 H') noQE
def O3(x0:a8)(x1:Int)(H:Hp)(K:f8→a8→Hp→Prop):Prop:=
 ∀(g0:Nat),Ct pG 43 [(Value.pointer (some ⟨g0,0,none⟩)),(vi x1)] H [bx g0 66 (f7 x0)] (fun v H' Fo=>∃(r0:f8)(y0:a8),v=(Value.agg (i7 r0).toArray)∧Fo=[bx g0 66 (f7 y0)]∧K r0 y0 H') noQE
def Z2(x0:a8)(x1:Int)(x2:Int)(H:Hp)(K:b9→a8→Hp→Prop):Prop:=
 ∀(g0:Nat),Ct pG 68 [(Value.pointer (some ⟨g0,0,none⟩)),(vi x1),(vi x2)] H [bx g0 66 (f7 x0)] (fun v H' Fo=>∃(r0:b9)(y0:a8),v=(Value.agg (m6 r0).toArray)∧Fo=[bx g0 66 (f7 y0)]∧K r0 y0 H') noQE
def N0(x0:a8)(x1:Int)(H:Hp)(K:Sl→a8→Hp→Prop):Prop:=
 ∀(g0:Nat),Ct pG 69 [(Value.pointer (some ⟨g0,0,none⟩)),(vi x1)] H [bx g0 66 (f7 x0)] (fun v H' Fo=>∃(r0:Sl)(y0:a8),v=(vs r0)∧Fo=[bx g0 66 (f7 y0)]∧K r0 y0 H') noQE
def a1y(x0:a8)(H:Hp)(K:ByteArray→a8→Hp→Prop):Prop:=
 ∀(g0:Nat),Ct pG 64 [(Value.pointer (some ⟨g0,0,none⟩))] H [bx g0 66 (f7 x0)] (fun v H' Fo=>∃(r0:ByteArray)(y0:a8),v=(Value.string r0)∧Fo=[bx g0 66 (f7 y0)]∧K r0 y0 H') noQE
def Z3(x0:a8)(x1:Int)(H:Hp)(K:b9→a8→Hp→Prop):Prop:=
 ∀(g0:Nat),Ct pG 26 [(Value.pointer (some ⟨g0,0,none⟩)),(vi x1)] H [bx g0 66 (f7 x0)] (fun v H' Fo=>∃(r0:b9)(y0:a8),v=(Value.agg (m6 r0).toArray)∧Fo=[bx g0 66 (f7 y0)]∧K r0 y0 H') noQE
def a1z(x0:a8)(x1:Bool)(H:Hp)(K:m7→a8→Hp→Prop):Prop:=
 ∀(g0:Nat),Ct pG 24 [(Value.pointer (some ⟨g0,0,none⟩)),(vB x1)] H [bx g0 66 (f7 x0)] (fun v H' Fo=>∃(r0:m7)(y0:a8),v=(Value.agg (u5 r0).toArray)∧Fo=[bx g0 66 (f7 y0)]∧K r0 y0 H') noQE
def U2(x0:ByteArray)(x1:Int)(H:Hp)(K:Int→Int→Hp→Prop):Prop:=
 Ct pG 109 [(Value.string x0),(vi x1)] H [] (fun v H' Fo=>∃(r0:Int)(r1:Int),v=(Value.tuple #[(vi r0),(vi r1)])∧Fo=[]∧K r0 r1 H') noQE
def a4m(x0:ByteArray)(x1:Int)(H:Hp)(K:Int→Hp→Prop):Prop:=
 Ct pG 60 [(Value.string x0),(vi x1)] H [] (fun v H' Fo=>∃(r0:Int),v=(vi r0)∧Fo=[]∧K r0 H') noQE
def a1v(x0:ByteArray)(x1:b8)(x2:Int)(x3:Int)(H:Hp)(K:b8→Hp→Prop):Prop:=
 Ct pG 61 [(Value.string x0),(Value.agg (l7 x1).toArray),(vi x2),(vi x3)] H [] (fun v H' Fo=>∃(r0:b8),v=(Value.agg (l7 r0).toArray)∧Fo=[]∧K r0 H') noQE
def a5p(x0:ByteArray)(x1:Int)(H:Hp)(K:Int→Int→Hp→Prop):Prop:=
 Ct pG 110 [(Value.string x0),(vi x1)] H [] (fun v H' Fo=>∃(r0:Int)(r1:Int),v=(Value.tuple #[(vi r0),(vi r1)])∧Fo=[]∧K r0 r1 H') noQE
def a3m(x0:ByteArray)(x1:Int)(H:Hp)(K:b6→Int→Int→Hp→Prop):Prop:=
 Ct pG 112 [(Value.string x0),(vi x1)] H [] (fun v H' Fo=>∃(r0:b6)(r1:Int)(r2:Int),v=(Value.tuple #[(Value.agg (i8 r0).toArray),(vi r1),(vi r2)])∧Fo=[]∧K r0 r1 r2 H') noQE
def a4o(x0:ByteArray)(x1:Int)(H:Hp)(K:b6→Int→Int→Hp→Prop):Prop:=
 Ct pG 113 [(Value.string x0),(vi x1)] H [] (fun v H' Fo=>∃(r0:b6)(r1:Int)(r2:Int),v=(Value.tuple #[(Value.agg (i8 r0).toArray),(vi r1),(vi r2)])∧Fo=[]∧K r0 r1 r2 H') noQE
def a5q(x0:ByteArray)(x1:Int)(H:Hp)(K:b6→Int→Int→Hp→Prop):Prop:=
 Ct pG 62 [(Value.string x0),(vi x1)] H [] (fun v H' Fo=>∃(r0:b6)(r1:Int)(r2:Int),v=(Value.tuple #[(Value.agg (i8 r0).toArray),(vi r1),(vi r2)])∧Fo=[]∧K r0 r1 r2 H') noQE
def a3N(x0:ByteArray)(H:Hp)(K:Int→Int→Hp→Prop):Prop:=
 Ct pG 58 [(Value.string x0)] H [] (fun v H' Fo=>∃(r0:Int)(r1:Int),v=(Value.tuple #[(vi r0),(vi r1)])∧Fo=[]∧K r0 r1 H') noQE
def a5Q(x0:ByteArray)(x1:Int)(H:Hp)(K:b8→Hp→Prop):Prop:=
 Ct pG 59 [(Value.string x0),(vi x1)] H [] (fun v H' Fo=>∃(r0:b8),v=(Value.agg (l7 r0).toArray)∧Fo=[]∧K r0 H') noQE
def a3o(x0:ByteArray)(H:Hp)(K:Sl→b8→Int→Hp→Prop):Prop:=
 Ct pG 22 [(Value.string x0)] H [] (fun v H' Fo=>∃(r0:Sl)(r1:b8)(r2:Int),v=(Value.tuple #[(vs r0),(Value.agg (l7 r1).toArray),(vi r2)])∧Fo=[]∧K r0 r1 r2 H') noQE
def a3O(x0:ByteArray)(H:Hp)(K:l8→b8→Int→Hp→Prop):Prop:=
 Ct pG 10 [(Value.string x0)] H [] (fun v H' Fo=>∃(r0:l8)(r1:b8)(r2:Int),v=(Value.tuple #[(Value.agg (p5 r0).toArray),(Value.agg (l7 r1).toArray),(vi r2)])∧Fo=[]∧K r0 r1 r2 H') noQE
def a2r(x0:l8)(H:Hp)(K:Bool→Hp→Prop):Prop:=
 Ct pG 30 [(Value.agg (p5 x0).toArray)] H [] (fun v H' Fo=>∃(r0:Bool),v=(vB r0)∧Fo=[]∧K r0 H') noQE
def V8(x0:d9)(x1:d9)(H:Hp)(K:Bool→Hp→Prop):Prop:=
 Ct pG 15 [(Value.agg (g7 x0).toArray),(Value.agg (g7 x1).toArray)] H [] (fun v H' Fo=>∃(r0:Bool),v=(vB r0)∧Fo=[]∧K r0 H') noQE
def a0x(x0:f8)(x1:f8)(H:Hp)(K:Bool→Hp→Prop):Prop:=
 Ct pG 18 [(Value.agg (i7 x0).toArray),(Value.agg (i7 x1).toArray)] H [] (fun v H' Fo=>∃(r0:Bool),v=(vB r0)∧Fo=[]∧K r0 H') noQE
def P9(x0:Sl)(x1:Sl)(H:Hp)(K:Bool→Hp→Prop):Prop:=
 Ct pG 31 [(vs x0),(vs x1)] H [] (fun v H' Fo=>∃(r0:Bool),v=(vB r0)∧Fo=[]∧K r0 H') noQE
def a3P(x0:l8)(x1:l8)(H:Hp)(K:Bool→Hp→Prop):Prop:=
 Ct pG 11 [(Value.agg (p5 x0).toArray),(Value.agg (p5 x1).toArray)] H [] (fun v H' Fo=>∃(r0:Bool),v=(vB r0)∧Fo=[]∧K r0 H') noQE
def a1Q(x0:ByteArray)(H:Hp)(K:Bool→Hp→Prop):Prop:=
 Ct pG 3 [(Value.string x0)] H [] (fun v H' Fo=>∃(r0:Bool),v=(vB r0)∧Fo=[]∧K r0 H') noQE
def a9W(x0:m7)(H:Hp)(K:k7→Hp→Prop):Prop:=
 Ct pG 77 [(Value.agg (u5 x0).toArray)] H [] (fun v H' Fo=>∃(r0:k7),v=(K6 r0)∧Fo=[]∧K r0 H') noQE
def N1(x0:Sl)(H:Hp)(K:Sl→Hp→Prop):Prop:=
 Ct pG 76 [(vs x0),(fC 77)] H [] (fun v H' Fo=>∃(r0:Sl),v=(vs r0)∧Fo=[]∧K r0 H') noQE
def a9X(x0:b9)(H:Hp)(K:k7→Hp→Prop):Prop:=
 Ct pG 79 [(Value.agg (m6 x0).toArray)] H [] (fun v H' Fo=>∃(r0:k7),v=(K6 r0)∧Fo=[]∧K r0 H') noQE
def C1(x0:Sl)(H:Hp)(K:Sl→Hp→Prop):Prop:=
 Ct pG 78 [(vs x0),(fC 79)] H [] (fun v H' Fo=>∃(r0:Sl),v=(vs r0)∧Fo=[]∧K r0 H') noQE
def X2(x1:Int)(H:Hp)(K:(List k7)→Hp→Prop):Prop:=
 Ct pG 120 [(nS),(vi x1)] H [] (fun v H' Fo=>∃(r0:(List k7))(sr0:Sl)(Fr0:Frag),v=(vs sr0)∧Fo=[Fr0]∧RowL 131 1 y7 sr0 r0 Fr0∧K r0 H') noQE
def D6(x0:Sl)(H:Hp)(K:Sl→Hp→Prop):Prop:=
 Ct pG 75 [(vs x0)] H [] (fun v H' Fo=>∃(r0:Sl),v=(vs r0)∧Fo=[]∧K r0 H') noQE
def a2Z(x0:k7)(H:Hp)(K:ByteArray→Bool→Hp→Prop):Prop:=
 Ct pG 143 [(K6 x0)] H [] (fun v H' Fo=>∃(r0:ByteArray)(r1:Bool),v=(Value.tuple #[(Value.string r0),(vB r1)])∧Fo=[]∧K r0 r1 H') noQE
def O7(x0:Int)(x1:Int)(x2:Int)(H:Hp)(K:Bool→Hp→Prop):Prop:=
 ∀(g2:Nat),Ct pG 151 [(Value.int .i32 x0),(Value.int .i32 x1),(Value.pointer (some ⟨g2,0,none⟩))] H [bx g2 21 [(Value.int .i32 x2)]] (fun v H' Fo=>∃(r0:Bool),v=(vB r0)∧Fo=[bx g2 21 [(Value.int .i32 x2)]]∧K r0 H') noQE
def V3(x0:Int)(H:Hp)(K:Int→Hp→Prop):Prop:=
 Ct pG 132 [(Value.int .i32 x0)] H [] (fun v H' Fo=>∃(r0:Int),v=(vi r0)∧Fo=[]∧K r0 H') noQE
def a4V(x0:Int)(H:Hp)(K:Bool→Hp→Prop):Prop:=
 Ct pG 154 [(Value.int .i32 x0)] H [] (fun v H' Fo=>∃(r0:Bool),v=(vB r0)∧Fo=[]∧K r0 H') noQE
def a7d(x0:ByteArray)(H:Hp)(K:Bool→Hp→Prop):Prop:=
 Ct pG 160 [(Value.string x0)] H [] (fun v H' Fo=>∃(r0:Bool),v=(vB r0)∧Fo=[]∧K r0 H') noQE
def a1f(x0:ByteArray)(H:Hp)(K:Int→Hp→Prop):Prop:=
 Ct pG 162 [(Value.string x0)] H [] (fun v H' Fo=>∃(r0:Int),v=(vi r0)∧Fo=[]∧K r0 H') noQE
def a6l(x0:ByteArray)(H:Hp)(K:Bool→Hp→Prop):Prop:=
 Ct pG 156 [(Value.string x0)] H [] (fun v H' Fo=>∃(r0:Bool),v=(vB r0)∧Fo=[]∧K r0 H') noQE
def a6m(x0:ByteArray)(H:Hp)(K:Bool→Hp→Prop):Prop:=
 Ct pG 155 [(Value.string x0)] H [] (fun v H' Fo=>∃(r0:Bool),v=(vB r0)∧Fo=[]∧K r0 H') noQE
def a6n(x0:ByteArray)(H:Hp)(K:Bool→Hp→Prop):Prop:=
 Ct pG 144 [(Value.string x0)] H [] (fun v H' Fo=>∃(r0:Bool),v=(vB r0)∧Fo=[]∧K r0 H') noQE
def a2z(x0:(List ByteArray))(x1:ByteArray)(H:Hp)(K:Int→Hp→Prop):Prop:=
 ∀(sx0:Sl)(Fx0:Frag),RowL 9 1 M9 sx0 x0 Fx0→Ct pG 161 [(vs sx0),(Value.string x1)] H [Fx0] (fun v H' Fo=>∃(r0:Int),v=(vi r0)∧Fo=[Fx0]∧K r0 H') noQE
def Z4(x0:(List ByteArray))(x1:ByteArray)(H:Hp)(K:Bool→Hp→Prop):Prop:=
 ∀(sx0:Sl)(Fx0:Frag),RowL 9 1 M9 sx0 x0 Fx0→Ct pG 145 [(vs sx0),(Value.string x1)] H [Fx0] (fun v H' Fo=>∃(r0:Bool),v=(vB r0)∧Fo=[Fx0]∧K r0 H') noQE
def a3p(x0:q9)(f:(List ByteArray))(x1:k7)(x2:Int)(H:Hp)(K:Bool→q9→(List ByteArray)→Hp→Prop):Prop:=
 ∀(g0:Nat),∀(a:Sl)(b:Frag),RowL 9 1 M9 a f b→Ct pG 119 [(Value.pointer (some ⟨g0,0,none⟩)),(K6 x1),(vi x2)] H [bx g0 79 (a2w x0 a),b] (fun v H' Fo=>∃(r0:Bool)(y0:q9)(c:(List ByteArray))(d:Sl)(e:Frag),v=(vB r0)∧Fo=[bx g0 79 (a2w y0 d),e]∧RowL 9 1 M9 d c e∧K r0 y0 c H') noQE
def a0P(x0:Sl)(x1:Int)(x2:q9)(f:(List ByteArray))(H:Hp)(K:Bool→q9→(List ByteArray)→Hp→Prop):Prop:=
 ∀(g2 g2b g3:Nat),∀(a:Sl)(b:Frag),RowL 9 1 M9 a f b→Ct pG 118 [(vs x0),(vi x1),(Value.pointer (some ⟨g2,0,none⟩)),(Value.pointer (some ⟨g3,0,none⟩))] H [bx g2 80 [(Value.pointer (some ⟨g2b,0,none⟩))],bx g2b 79 (a2w x2 a),b,bx g3 169 [(Value.func (.func 118) #[] #[(Value.pointer (some ⟨g2,0,none⟩)),(Value.pointer (some ⟨g3,0,none⟩))])]] (fun v H' Fo=>∃(r0:Bool)(y0:q9)(c:(List ByteArray))(d:Sl)(e:Frag),v=(vB r0)∧Fo=[bx g2 80 [(Value.pointer (some ⟨g2b,0,none⟩))],bx g2b 79 (a2w y0 d),e,bx g3 169 [(Value.func (.func 118) #[] #[(Value.pointer (some ⟨g2,0,none⟩)),(Value.pointer (some ⟨g3,0,none⟩))])]]∧RowL 9 1 M9 d c e∧K r0 y0 c H') noQE
def a6T(x0:Sl)(H:Hp)(K:q9→Hp→Prop):Prop:=
 Ct pG 74 [(vs x0)] H [] (fun v H' Fo=>∃(r0:q9)(gr0:Nat),v=(Value.pointer (some ⟨gr0,0,none⟩))∧Fo=[bx gr0 79 (b4p r0)]∧K r0 H') noQE
def a8E(x0:l8)(H:Hp)(K:q9→Hp→Prop):Prop:=
 Ct pG 32 [(Value.agg (p5 x0).toArray)] H [] (fun v H' Fo=>∃(r0:q9)(gr0:Nat),v=(Value.pointer (some ⟨gr0,0,none⟩))∧Fo=[bx gr0 79 (b4p r0)]∧K r0 H') noQE
def a7s(x0:l8)(H:Hp)(K:Int→Hp→Prop):Prop:=
 Ct pG 12 [(Value.agg (p5 x0).toArray)] H [] (fun v H' Fo=>∃(r0:Int),v=(vi r0)∧Fo=[]∧K r0 H') noQE
def C0(x0:b7)(H:Hp)(K:b6→Hp→Prop):Prop:=
 ∀(g0:Nat),Ct pG 51 [(Value.pointer (some ⟨g0,0,none⟩))] H [bx g0 101 (g8 x0)] (fun v H' Fo=>∃(r0:b6),v=(Value.agg (i8 r0).toArray)∧Fo=[bx g0 101 (g8 x0)]∧K r0 H') noQE
def u6(x0:b7)(x1:ByteArray)(H:Hp)(K:Bool→Hp→Prop):Prop:=
 ∀(g0:Nat),Ct pG 53 [(Value.pointer (some ⟨g0,0,none⟩)),(Value.string x1)] H [bx g0 101 (g8 x0)] (fun v H' Fo=>∃(r0:Bool),v=(vB r0)∧Fo=[bx g0 101 (g8 x0)]∧K r0 H') noQE
def R4(x0:b7)(H:Hp)(K:Bool→Hp→Prop):Prop:=
 ∀(g0:Nat),Ct pG 56 [(Value.pointer (some ⟨g0,0,none⟩))] H [bx g0 101 (g8 x0)] (fun v H' Fo=>∃(r0:Bool),v=(vB r0)∧Fo=[bx g0 101 (g8 x0)]∧K r0 H') noQE
def E6 [PanQ] (x0:b7) (H:Hp) (K:Hp→Prop):Prop:=
 ∀(g0:Nat),Ct pG 52 [(Value.pointer (some ⟨g0,0,none⟩))] H [bx g0 101 (g8 x0)] (fun v H' Fo=>v=(Value.tuple #[])∧Fo=[bx g0 101 (g8 x0)]∧K H') panQE
def D2 [PanQ] (x0:b7) (x1:Int) (x2:Bool) (H:Hp) (K:Hp→Prop):Prop:=
 ∀(g0:Nat),Ct pG 55 [(Value.pointer (some ⟨g0,0,none⟩)),(vi x1),(vB x2)] H [bx g0 101 (g8 x0)] (fun v H' Fo=>v=(Value.tuple #[])∧Fo=[bx g0 101 (g8 x0)]∧K H') panQE
def y4(x0:b7)(x1:ByteArray)(H:Hp)(K:Bool→b7→Hp→Prop):Prop:=
 ∀(g0:Nat),Ct pG 105 [(Value.pointer (some ⟨g0,0,none⟩)),(Value.string x1)] H [bx g0 101 (g8 x0)] (fun v H' Fo=>∃(r0:Bool)(y0:b7),v=(vB r0)∧Fo=[bx g0 101 (g8 y0)]∧K r0 y0 H') noQE
def C6 [PanQ] (x0:b7) (x1:ByteArray) (H:Hp) (K:b7→Hp→Prop):Prop:=
 ∀(g0:Nat),Ct pG 103 [(Value.pointer (some ⟨g0,0,none⟩)),(Value.string x1)] H [bx g0 101 (g8 x0)] (fun v H' Fo=>∃(y0:b7),v=(Value.tuple #[])∧Fo=[bx g0 101 (g8 y0)]∧K y0 H') panQE
def T2 [PanQ] (x0:b7) (x1:Int) (H:Hp) (K:d9→b7→Hp→Prop):Prop:=
 ∀(g0:Nat),Ct pG 35 [(Value.pointer (some ⟨g0,0,none⟩)),(vi x1)] H [bx g0 101 (g8 x0)] (fun v H' Fo=>∃(r0:d9)(y0:b7),v=(Value.agg (g7 r0).toArray)∧Fo=[bx g0 101 (g8 y0)]∧K r0 y0 H') panQE
def T3 [PanQ] (x0:b7) (H:Hp) (K:b6→b7→Hp→Prop):Prop:=
 ∀(g0:Nat),Ct pG 104 [(Value.pointer (some ⟨g0,0,none⟩))] H [bx g0 101 (g8 x0)] (fun v H' Fo=>∃(r0:b6)(y0:b7),v=(Value.agg (i8 r0).toArray)∧Fo=[bx g0 101 (g8 y0)]∧K r0 y0 H') panQE
def H8(x0:b7)(H:Hp)(K:Bool→Hp→Prop):Prop:=
 ∀(g0:Nat),Ct pG 141 [(Value.pointer (some ⟨g0,0,none⟩))] H [bx g0 101 (g8 x0)] (fun v H' Fo=>∃(r0:Bool),v=(vB r0)∧Fo=[bx g0 101 (g8 x0)]∧K r0 H') noQE
def X3 [PanQ] (x0:b7) (x1:Int) (x2:ByteArray) (H:Hp) (K:d9→b7→Hp→Prop):Prop:=
 ∀(g0:Nat),Ct pG 106 [(Value.pointer (some ⟨g0,0,none⟩)),(vi x1),(Value.string x2)] H [bx g0 101 (g8 x0)] (fun v H' Fo=>∃(r0:d9)(y0:b7),v=(Value.agg (g7 r0).toArray)∧Fo=[bx g0 101 (g8 y0)]∧K r0 y0 H') panQE
def P0 [PanQ] (x0:b7) (x1:Int) (H:Hp) (K:f8→b7→Hp→Prop):Prop:=
 ∀(g0:Nat),Ct pG 41 [(Value.pointer (some ⟨g0,0,none⟩)),(vi x1)] H [bx g0 101 (g8 x0)] (fun v H' Fo=>∃(r0:f8)(y0:b7),v=(Value.agg (i7 r0).toArray)∧Fo=[bx g0 101 (g8 y0)]∧K r0 y0 H') panQE
def X4 [PanQ] (x0:b7) (x1:Int) (H:Hp) (K:Sl→b7→Hp→Prop):Prop:=
 ∀(g0:Nat),Ct pG 107 [(Value.pointer (some ⟨g0,0,none⟩)),(vi x1)] H [bx g0 101 (g8 x0)] (fun v H' Fo=>∃(r0:Sl)(y0:b7),v=(vs r0)∧Fo=[bx g0 101 (g8 y0)]∧K r0 y0 H') panQE
def Y2 [PanQ] (x0:b7) (x1:Int) (H:Hp) (K:b9→b7→Hp→Prop):Prop:=
 ∀(g0:Nat),Ct pG 57 [(Value.pointer (some ⟨g0,0,none⟩)),(vi x1)] H [bx g0 101 (g8 x0)] (fun v H' Fo=>∃(r0:b9)(y0:b7),v=(Value.agg (m6 r0).toArray)∧Fo=[bx g0 101 (g8 y0)]∧K r0 y0 H') panQE
def a3q [PanQ] (x0:b7) (x1:Int) (H:Hp) (K:b6→b7→Hp→Prop):Prop:=
 ∀(g0:Nat),Ct pG 102 [(Value.pointer (some ⟨g0,0,none⟩)),(vi x1)] H [bx g0 101 (g8 x0)] (fun v H' Fo=>∃(r0:b6)(y0:b7),v=(Value.agg (i8 r0).toArray)∧Fo=[bx g0 101 (g8 y0)]∧K r0 y0 H') panQE
def a3r [PanQ] (x0:b7) (H:Hp) (K:m7→b7→Hp→Prop):Prop:=
 ∀(g0:Nat),Ct pG 54 [(Value.pointer (some ⟨g0,0,none⟩))] H [bx g0 101 (g8 x0)] (fun v H' Fo=>∃(r0:m7)(y0:b7),v=(Value.agg (u5 r0).toArray)∧Fo=[bx g0 101 (g8 y0)]∧K r0 y0 H') panQE
def a3s [PanQ] (x0:b7) (H:Hp) (K:l8→b7→Hp→Prop):Prop:=
 ∀(g0:Nat),Ct pG 21 [(Value.pointer (some ⟨g0,0,none⟩))] H [bx g0 101 (g8 x0)] (fun v H' Fo=>∃(r0:l8)(y0:b7),v=(Value.agg (p5 r0).toArray)∧Fo=[bx g0 101 (g8 y0)]∧K r0 y0 H') panQE
def b0G(x0:ByteArray)(H:Hp)(K:Sl→b8→Int→Hp→Prop):Prop:=
 Ct pG 49 [(Value.string x0)] H [] (fun v H' Fo=>∃(r0:Sl)(r1:b8)(r2:Int),v=(Value.tuple #[(vs r0),(Value.agg (l7 r1).toArray),(vi r2)])∧Fo=[]∧K r0 r1 r2 H') noQE
def a3t [PanQ] (x0:b7) (x1:Int) (H:Hp) (K:d9→b7→Hp→Prop):Prop:=
 ∀(g0:Nat),Ct pG 82 [(Value.pointer (some ⟨g0,0,none⟩)),(vi x1)] H [bx g0 101 (g8 x0)] (fun v H' Fo=>∃(r0:d9)(y0:b7),v=(Value.agg (g7 r0).toArray)∧Fo=[bx g0 101 (g8 y0)]∧K r0 y0 H') panQE
def a1R [PanQ] (x0:b7) (H:Hp) (K:Int→b7→Hp→Prop):Prop:=
 ∀(g0:Nat),Ct pG 126 [(Value.pointer (some ⟨g0,0,none⟩))] H [bx g0 101 (g8 x0)] (fun v H' Fo=>∃(r0:Int)(y0:b7),v=(vi r0)∧Fo=[bx g0 101 (g8 y0)]∧K r0 y0 H') panQE
def S7(x0:b7)(H:Hp)(K:Bool→Hp→Prop):Prop:=
 ∀(g0:Nat),Ct pG 125 [(Value.pointer (some ⟨g0,0,none⟩))] H [bx g0 101 (g8 x0)] (fun v H' Fo=>∃(r0:Bool),v=(vB r0)∧Fo=[bx g0 101 (g8 x0)]∧K r0 H') noQE
def a0h [PanQ] (x0:b7) (x1:Int) (H:Hp) (K:f8→b7→Hp→Prop):Prop:=
 ∀(g0:Nat),Ct pG 89 [(Value.pointer (some ⟨g0,0,none⟩)),(vi x1)] H [bx g0 101 (g8 x0)] (fun v H' Fo=>∃(r0:f8)(y0:b7),v=(Value.agg (i7 r0).toArray)∧Fo=[bx g0 101 (g8 y0)]∧K r0 y0 H') panQE
def a0Q(x0:ByteArray)(H:Hp)(K:Int→Int→Hp→Prop):Prop:=
 Ct pG 128 [(Value.string x0)] H [] (fun v H' Fo=>∃(r0:Int)(r1:Int),v=(Value.tuple #[(Value.int .i32 r0),(vi r1)])∧Fo=[]∧K r0 r1 H') noQE
def b0H(x0:ByteArray)(H:Hp)(K:Int→Int→Hp→Prop):Prop:=
 Ct pG 97 [(Value.string x0)] H [] (fun v H' Fo=>∃(r0:Int)(r1:Int),v=(Value.tuple #[(vi r0),(vi r1)])∧Fo=[]∧K r0 r1 H') noQE
def V9(x0:j8)(c:(List b6))(H:Hp)(K:ByteArray→Hp→Prop):Prop:=
 ∀(g0:Nat),∀(a:Sl)(b:Frag),RowL 103 5 i8 a c b→Ct pG 135 [(Value.pointer (some ⟨g0,0,none⟩))] H [bx g0 155 (y6 x0 a),b] (fun v H' Fo=>∃(r0:ByteArray),v=(Value.string r0)∧Fo=[bx g0 155 (y6 x0 a),b]∧K r0 H') noQE
def a4p(x0:ByteArray)(x1:ByteArray)(H:Hp)(K:Bool→Hp→Prop):Prop:=
 Ct pG 153 [(Value.string x0),(Value.string x1)] H [] (fun v H' Fo=>∃(r0:Bool),v=(vB r0)∧Fo=[]∧K r0 H') noQE
def a4W(x0:ByteArray)(x1:ByteArray)(H:Hp)(K:Bool→Hp→Prop):Prop:=
 Ct pG 134 [(Value.string x0),(Value.string x1)] H [] (fun v H' Fo=>∃(r0:Bool),v=(vB r0)∧Fo=[]∧K r0 H') noQE
def a2A(x0:Int)(H:Hp)(K:Bool→Hp→Prop):Prop:=
 Ct pG 136 [(Value.int .i32 x0)] H [] (fun v H' Fo=>∃(r0:Bool),v=(vB r0)∧Fo=[]∧K r0 H') noQE
def K9(x0:j8)(f:(List b6))(H:Hp)(K:j8→(List b6)→Hp→Prop):Prop:=
 ∀(g0:Nat),∀(a:Sl)(b:Frag),RowL 103 5 i8 a f b→Ct pG 152 [(Value.pointer (some ⟨g0,0,none⟩))] H [bx g0 155 (y6 x0 a),b] (fun v H' Fo=>∃(y0:j8)(c:(List b6))(d:Sl)(e:Frag),v=(Value.tuple #[])∧Fo=[bx g0 155 (y6 y0 d),e]∧RowL 103 5 i8 d c e∧K y0 c H') noQE
def E2(x0:j8)(c:(List b6))(H:Hp)(K:Int→Bool→Hp→Prop):Prop:=
 ∀(g0:Nat),∀(a:Sl)(b:Frag),RowL 103 5 i8 a c b→Ct pG 100 [(Value.pointer (some ⟨g0,0,none⟩))] H [bx g0 155 (y6 x0 a),b] (fun v H' Fo=>∃(r0:Int)(r1:Bool),v=(Value.tuple #[(Value.int .i32 r0),(vB r1)])∧Fo=[bx g0 155 (y6 x0 a),b]∧K r0 r1 H') noQE
def N7(x0:j8)(f:(List b6))(H:Hp)(K:ByteArray→j8→(List b6)→Hp→Prop):Prop:=
 ∀(g0:Nat),∀(a:Sl)(b:Frag),RowL 103 5 i8 a f b→Ct pG 133 [(Value.pointer (some ⟨g0,0,none⟩)),(fC 136)] H [bx g0 155 (y6 x0 a),b] (fun v H' Fo=>∃(r0:ByteArray)(y0:j8)(c:(List b6))(d:Sl)(e:Frag),v=(Value.string r0)∧Fo=[bx g0 155 (y6 y0 d),e]∧RowL 103 5 i8 d c e∧K r0 y0 c H') noQE
def a2B(x0:Int)(H:Hp)(K:Bool→Hp→Prop):Prop:=
 Ct pG 131 [(Value.int .i32 x0)] H [] (fun v H' Fo=>∃(r0:Bool),v=(vB r0)∧Fo=[]∧K r0 H') noQE
def F0(x0:j8)(f:(List b6))(H:Hp)(K:ByteArray→j8→(List b6)→Hp→Prop):Prop:=
 ∀(g0:Nat),∀(a:Sl)(b:Frag),RowL 103 5 i8 a f b→Ct pG 133 [(Value.pointer (some ⟨g0,0,none⟩)),(fC 131)] H [bx g0 155 (y6 x0 a),b] (fun v H' Fo=>∃(r0:ByteArray)(y0:j8)(c:(List b6))(d:Sl)(e:Frag),v=(Value.string r0)∧Fo=[bx g0 155 (y6 y0 d),e]∧RowL 103 5 i8 d c e∧K r0 y0 c H') noQE
def a1d(x0:j8)(f:(List b6))(H:Hp)(K:j8→(List b6)→Hp→Prop):Prop:=
 ∀(g0:Nat),∀(a:Sl)(b:Frag),RowL 103 5 i8 a f b→Ct pG 99 [(Value.pointer (some ⟨g0,0,none⟩))] H [bx g0 155 (y6 x0 a),b] (fun v H' Fo=>∃(y0:j8)(c:(List b6))(d:Sl)(e:Frag),v=(Value.tuple #[])∧Fo=[bx g0 155 (y6 y0 d),e]∧RowL 103 5 i8 d c e∧K y0 c H') noQE
def a3b(x0:b7)(x1:a2Y)(H:Hp)(K:Int→b7→Hp→Prop):Prop:=
 ∀(g0:Nat),Ct pG 121 [(Value.pointer (some ⟨g0,0,none⟩)),(Value.agg (Z6 x1).toArray)] H [bx g0 101 (g8 x0)] (fun v H' Fo=>∃(r0:Int)(y0:b7),v=(vi r0)∧Fo=[bx g0 101 (g8 y0)]∧K r0 y0 H') noQE
def T4 [PanQ] (x0:b7) (x1:Int) (H:Hp) (K:d9→b7→Hp→Prop):Prop:=
 ∀(g0:Nat),Ct pG 122 [(Value.pointer (some ⟨g0,0,none⟩)),(vi x1)] H [bx g0 101 (g8 x0)] (fun v H' Fo=>∃(r0:d9)(y0:b7),v=(Value.agg (g7 r0).toArray)∧Fo=[bx g0 101 (g8 y0)]∧K r0 y0 H') panQE
def S9(x0:j8)(f:(List b6))(H:Hp)(K:ByteArray→j8→(List b6)→Hp→Prop):Prop:=
 ∀(g0:Nat),∀(a:Sl)(b:Frag),RowL 103 5 i8 a f b→Ct pG 133 [(Value.pointer (some ⟨g0,0,none⟩)),(fC 154)] H [bx g0 155 (y6 x0 a),b] (fun v H' Fo=>∃(r0:ByteArray)(y0:j8)(c:(List b6))(d:Sl)(e:Frag),v=(Value.string r0)∧Fo=[bx g0 155 (y6 y0 d),e]∧RowL 103 5 i8 d c e∧K r0 y0 c H') noQE
def a7F(x0:j8)(f:(List b6))(H:Hp)(K:b6→Int→j8→(List b6)→Hp→Prop):Prop:=
 ∀(g0:Nat),∀(a:Sl)(b:Frag),RowL 103 5 i8 a f b→Ct pG 137 [(Value.pointer (some ⟨g0,0,none⟩))] H [bx g0 155 (y6 x0 a),b] (fun v H' Fo=>∃(r0:b6)(r1:Int)(y0:j8)(c:(List b6))(d:Sl)(e:Frag),v=(Value.tuple #[(Value.agg (i8 r0).toArray),(vi r1)])∧Fo=[bx g0 155 (y6 y0 d),e]∧RowL 103 5 i8 d c e∧K r0 r1 y0 c H') noQE
def a2C(x0:Int)(H:Hp)(K:Bool→Hp→Prop):Prop:=
 Ct pG 157 [(Value.int .i32 x0)] H [] (fun v H' Fo=>∃(r0:Bool),v=(vB r0)∧Fo=[]∧K r0 H') noQE
def N8(x0:j8)(f:(List b6))(H:Hp)(K:ByteArray→j8→(List b6)→Hp→Prop):Prop:=
 ∀(g0:Nat),∀(a:Sl)(b:Frag),RowL 103 5 i8 a f b→Ct pG 133 [(Value.pointer (some ⟨g0,0,none⟩)),(fC 157)] H [bx g0 155 (y6 x0 a),b] (fun v H' Fo=>∃(r0:ByteArray)(y0:j8)(c:(List b6))(d:Sl)(e:Frag),v=(Value.string r0)∧Fo=[bx g0 155 (y6 y0 d),e]∧RowL 103 5 i8 d c e∧K r0 y0 c H') noQE
def b1y(x0:ByteArray)(x1:Int)(x2:Int)(H:Hp)(K:Int→Value→Hp→Prop):Prop:=
 Ct pG 158 [(Value.string x0),(vi x1),(vi x2)] H [] (fun v H' Fo=>∃(r0:Int)(r1:Value),v=(Value.tuple #[(vi r0),r1])∧Fo=[]∧K r0 r1 H') noQE
def a7e(x0:j8)(f:(List b6))(H:Hp)(K:b6→Int→j8→(List b6)→Hp→Prop):Prop:=
 ∀(g0:Nat),∀(a:Sl)(b:Frag),RowL 103 5 i8 a f b→Ct pG 138 [(Value.pointer (some ⟨g0,0,none⟩))] H [bx g0 155 (y6 x0 a),b] (fun v H' Fo=>∃(r0:b6)(r1:Int)(y0:j8)(c:(List b6))(d:Sl)(e:Frag),v=(Value.tuple #[(Value.agg (i8 r0).toArray),(vi r1)])∧Fo=[bx g0 155 (y6 y0 d),e]∧RowL 103 5 i8 d c e∧K r0 r1 y0 c H') noQE
def a7G(x0:j8)(f:(List b6))(H:Hp)(K:b6→Int→j8→(List b6)→Hp→Prop):Prop:=
 ∀(g0:Nat),∀(a:Sl)(b:Frag),RowL 103 5 i8 a f b→Ct pG 139 [(Value.pointer (some ⟨g0,0,none⟩))] H [bx g0 155 (y6 x0 a),b] (fun v H' Fo=>∃(r0:b6)(r1:Int)(y0:j8)(c:(List b6))(d:Sl)(e:Frag),v=(Value.tuple #[(Value.agg (i8 r0).toArray),(vi r1)])∧Fo=[bx g0 155 (y6 y0 d),e]∧RowL 103 5 i8 d c e∧K r0 r1 y0 c H') noQE
def b1z(H:Hp)(K:b6→Int→Hp→Prop):Prop:=
 Ct pG 140 [] H [] (fun v H' Fo=>∃(r0:b6)(r1:Int),v=(Value.tuple #[(Value.agg (i8 r0).toArray),(vi r1)])∧Fo=[]∧K r0 r1 H') noQE
def a5r(x0:S0)(H:Hp)(K:Bool→Hp→Prop):Prop:=
 Ct pG 205 [(Value.agg (g7 x0.z7).toArray)] H [] (fun v H' Fo=>∃(r0:Bool),v=(vB r0)∧Fo=[]∧K r0 H') noQE
def a9Y(x0:d9)(H:Hp)(K:k7→Hp→Prop):Prop:=
 Ct pG 208 [(Value.agg (g7 x0).toArray)] H [] (fun v H' Fo=>∃(r0:k7),v=(K6 r0)∧Fo=[]∧K r0 H') noQE
def C2(x0:Sl)(H:Hp)(K:Sl→Hp→Prop):Prop:=
 Ct pG 207 [(vs x0),(fC 208)] H [] (fun v H' Fo=>∃(r0:Sl),v=(vs r0)∧Fo=[]∧K r0 H') noQE
def a7H(x0:S0)(H:Hp)(K:Sl→Hp→Prop):Prop:=
 Ct pG 206 [(Value.agg (g7 x0.z7).toArray)] H [] (fun v H' Fo=>∃(r0:Sl),v=(vs r0)∧Fo=[]∧K r0 H') noQE
def a5s(x0:a0b)(H:Hp)(K:Bool→Hp→Prop):Prop:=
 Ct pG 209 [(Value.agg (i7 x0.z6).toArray)] H [] (fun v H' Fo=>∃(r0:Bool),v=(vB r0)∧Fo=[]∧K r0 H') noQE
def a9Z(x0:f8)(H:Hp)(K:k7→Hp→Prop):Prop:=
 Ct pG 212 [(Value.agg (i7 x0).toArray)] H [] (fun v H' Fo=>∃(r0:k7),v=(K6 r0)∧Fo=[]∧K r0 H') noQE
def E8(x0:Sl)(H:Hp)(K:Sl→Hp→Prop):Prop:=
 Ct pG 211 [(vs x0),(fC 212)] H [] (fun v H' Fo=>∃(r0:Sl),v=(vs r0)∧Fo=[]∧K r0 H') noQE
def a7I(x0:a0b)(H:Hp)(K:Sl→Hp→Prop):Prop:=
 Ct pG 210 [(Value.agg (i7 x0.z6).toArray)] H [] (fun v H' Fo=>∃(r0:Sl),v=(vs r0)∧Fo=[]∧K r0 H') noQE
def a8w(x0:a0U)(H:Hp)(K:Bool→Hp→Prop):Prop:=
 Ct pG 213 [(Value.agg (u5 x0.a2q).toArray)] H [] (fun v H' Fo=>∃(r0:Bool),v=(vB r0)∧Fo=[]∧K r0 H') noQE
def a7J(x0:a0U)(H:Hp)(K:Sl→Hp→Prop):Prop:=
 Ct pG 214 [(Value.agg (u5 x0.a2q).toArray)] H [] (fun v H' Fo=>∃(r0:Sl),v=(vs r0)∧Fo=[]∧K r0 H') noQE
def a5t(x0:a0d)(H:Hp)(K:Bool→Hp→Prop):Prop:=
 Ct pG 215 [(Value.agg (m6 x0.p6).toArray)] H [] (fun v H' Fo=>∃(r0:Bool),v=(vB r0)∧Fo=[]∧K r0 H') noQE
def a7K(x0:a0d)(H:Hp)(K:Sl→Hp→Prop):Prop:=
 Ct pG 216 [(Value.agg (m6 x0.p6).toArray)] H [] (fun v H' Fo=>∃(r0:Sl),v=(vs r0)∧Fo=[]∧K r0 H') noQE
def b2T(x0:ByteArray)(x1:Int)(H:Hp)(K:b8→Hp→Prop):Prop:=
 Ct pG 98 [(Value.string x0),(vi x1)] H [] (fun v H' Fo=>∃(r0:b8),v=(Value.agg (l7 r0).toArray)∧Fo=[]∧K r0 H') noQE
def a6U(x:k7)(H:Hp)(K:Bool→Hp→Prop):Prop:=match x with
 | .nil=>False
 | .M4 y=>a5r y H K
 | .S3 y=>a5s y H K
 | .Q6 y=>a8w y H K
 | .N6 y=>a5t y H K
def a6q(x:k7)(H:Hp)(K:Sl→Hp→Prop):Prop:=match x with
 | .nil=>False
 | .M4 y=>a7H y H K
 | .S3 y=>a7I y H K
 | .Q6 y=>a7J y H K
 | .N6 y=>a7K y H K
theorem b4r {E : Pan} {w0 w : World} {ps : Nat → Prop} {H0 H : Hp} {Fr : List Frag} {K : RT} {Kc : Bool → Hp → Prop} {x : k7} (I : Inv w0 ps H0 H Fr w) (h : a6U x H Kc) (hq : ∀ (r0 : Bool) (H' : Hp) (w' : World), Inv w0 ps H0 H' Fr w' → Hle H H' → (∀ i, i < w.heap.size → ¬ inF [] i → w'.heap[i]? = w.heap[i]?) → Kc r0 H' → K (vB r0) w') : oP E (xInvoke (K6 x) "gnomon/tree.form" []) w K := by
 cases x with
 | nil=>exact h.elim
 | M4 y=>exact a2v (f:=205) (args:=[(Value.agg (g7 y.z7).toArray)].toArray) (by kernel_rfl) (a6k (Fi:=[]) I h (fun v H' Fo w' I' l hk hq'=>by obtain ⟨r0,rfl,rfl,hK⟩:=hq';exact hq r0 H' w' I' l hk hK) (fun _ _ _ _ _ q=>q.elim))
 | S3 y=>exact a2v (f:=209) (args:=[(Value.agg (i7 y.z6).toArray)].toArray) (by kernel_rfl) (a6k (Fi:=[]) I h (fun v H' Fo w' I' l hk hq'=>by obtain ⟨r0,rfl,rfl,hK⟩:=hq';exact hq r0 H' w' I' l hk hK) (fun _ _ _ _ _ q=>q.elim))
 | Q6 y=>exact a2v (f:=213) (args:=[(Value.agg (u5 y.a2q).toArray)].toArray) (by kernel_rfl) (a6k (Fi:=[]) I h (fun v H' Fo w' I' l hk hq'=>by obtain ⟨r0,rfl,rfl,hK⟩:=hq';exact hq r0 H' w' I' l hk hK) (fun _ _ _ _ _ q=>q.elim))
 | N6 y=>exact a2v (f:=215) (args:=[(Value.agg (m6 y.p6).toArray)].toArray) (by kernel_rfl) (a6k (Fi:=[]) I h (fun v H' Fo w' I' l hk hq'=>by obtain ⟨r0,rfl,rfl,hK⟩:=hq';exact hq r0 H' w' I' l hk hK) (fun _ _ _ _ _ q=>q.elim))
theorem b4b {E : Pan} {w0 w : World} {ps : Nat → Prop} {H0 H : Hp} {Fr : List Frag} {K : RT} {Kc : Sl → Hp → Prop} {x : k7} (I : Inv w0 ps H0 H Fr w) (h : a6q x H Kc) (hq : ∀ (r0 : Sl) (H' : Hp) (w' : World), Inv w0 ps H0 H' Fr w' → Hle H H' → (∀ i, i < w.heap.size → ¬ inF [] i → w'.heap[i]? = w.heap[i]?) → Kc r0 H' → K (vs r0) w') : oP E (xInvoke (K6 x) "gnomon/tree.parts" []) w K := by
 cases x with
 | nil=>exact h.elim
 | M4 y=>exact a2v (f:=206) (args:=[(Value.agg (g7 y.z7).toArray)].toArray) (by kernel_rfl) (a6k (Fi:=[]) I h (fun v H' Fo w' I' l hk hq'=>by obtain ⟨r0,rfl,rfl,hK⟩:=hq';exact hq r0 H' w' I' l hk hK) (fun _ _ _ _ _ q=>q.elim))
 | S3 y=>exact a2v (f:=210) (args:=[(Value.agg (i7 y.z6).toArray)].toArray) (by kernel_rfl) (a6k (Fi:=[]) I h (fun v H' Fo w' I' l hk hq'=>by obtain ⟨r0,rfl,rfl,hK⟩:=hq';exact hq r0 H' w' I' l hk hK) (fun _ _ _ _ _ q=>q.elim))
 | Q6 y=>exact a2v (f:=214) (args:=[(Value.agg (u5 y.a2q).toArray)].toArray) (by kernel_rfl) (a6k (Fi:=[]) I h (fun v H' Fo w' I' l hk hq'=>by obtain ⟨r0,rfl,rfl,hK⟩:=hq';exact hq r0 H' w' I' l hk hK) (fun _ _ _ _ _ q=>q.elim))
 | N6 y=>exact a2v (f:=216) (args:=[(Value.agg (m6 y.p6).toArray)].toArray) (by kernel_rfl) (a6k (Fi:=[]) I h (fun v H' Fo w' I' l hk hq'=>by obtain ⟨r0,rfl,rfl,hK⟩:=hq';exact hq r0 H' w' I' l hk hK) (fun _ _ _ _ _ q=>q.elim))
end Go.Proofs.YthklmeihgmcljaaGreatDoor
