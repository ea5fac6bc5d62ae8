/- Contracts of the program's functions; printed by lift.py off the code. -/
import Derived.Test.YthaaobpfbgcfiaaGreatDooryWU1
import Derived.Test.YthaaobpfbgcfiaaGreatDooryWG1a
import Derived.Test.YthaaobpfbgcfiaaGreatDooryWG1b
import Derived.Test.YthaaobpfbgcfiaaGreatDooryWG1c
namespace Go.Proofs.YthaaobpfbgcfiaaGreatDoor
open Go.RowKit
set_option maxRecDepth 100000
set_option maxHeartbeats 2000000
def r9(x0:b9)(g:(List Int))(i:(List (List Int)))(j:(List d5))(x1:o3)(H:Hp)(K:Int→Hp→Prop):Prop:=
 ∀(g0:Nat),∀(a:Sl)(b:Frag)(c:Sl)(d:Frag)(e:Sl)(f:Frag),RowL 2 1 i6 a g b→RowsL 26 2 1 i6 c i d→RowL 87 3 m6 e j f→Ct pG 45 [(Value.pointer (some ⟨g0,0,none⟩)),(Value.agg (m4 x1).toArray)] H [bx g0 78 (m9 x0 a c e),b,d,f] (fun v H' Fo=>∃(r0:Int),v=(vi r0)∧Fo=[bx g0 78 (m9 x0 a c e),b,d,f]∧K r0 H') noQE
def a3t(H:Hp)(K:Hp→Prop):Prop:=
 Ct pG 76 [] H [] (fun v H' Fo=>v=(Value.agg #[(fC 98),(fC 99),(fC 100),(fC 101),(fC 102),(fC 103),(fC 104)])∧Fo=[]∧K H') noQE
def b3G(x0:Int)(x1:Int)(H:Hp)(K:Bool→Hp→Prop):Prop:=
 Ct pG 98 [(vi x0),(vi x1)] H [] (fun v H' Fo=>∃(r0:Bool),v=(vB r0)∧Fo=[]∧K r0 H') noQE
def a6d(x0:Int)(x1:Int)(H:Hp)(K:Bool→Hp→Prop):Prop:=
 Ct pG 99 [(vi x0),(vi x1)] H [] (fun v H' Fo=>∃(r0:Bool),v=(vB r0)∧Fo=[]∧K r0 H') noQE
def a6e(x0:Int)(x1:Int)(H:Hp)(K:Bool→Hp→Prop):Prop:=
 Ct pG 100 [(vi x0),(vi x1)] H [] (fun v H' Fo=>∃(r0:Bool),v=(vB r0)∧Fo=[]∧K r0 H') noQE
def a6f(x0:Int)(x1:Int)(H:Hp)(K:Bool→Hp→Prop):Prop:=
 Ct pG 101 [(vi x0),(vi x1)] H [] (fun v H' Fo=>∃(r0:Bool),v=(vB r0)∧Fo=[]∧K r0 H') noQE
def a6g(x0:Int)(x1:Int)(H:Hp)(K:Bool→Hp→Prop):Prop:=
 Ct pG 102 [(vi x0),(vi x1)] H [] (fun v H' Fo=>∃(r0:Bool),v=(vB r0)∧Fo=[]∧K r0 H') noQE
def a6h(x0:Int)(x1:Int)(H:Hp)(K:Bool→Hp→Prop):Prop:=
 Ct pG 103 [(vi x0),(vi x1)] H [] (fun v H' Fo=>∃(r0:Bool),v=(vB r0)∧Fo=[]∧K r0 H') noQE
def a6i(x0:Int)(x1:Int)(H:Hp)(K:Bool→Hp→Prop):Prop:=
 Ct pG 104 [(vi x0),(vi x1)] H [] (fun v H' Fo=>∃(r0:Bool),v=(vB r0)∧Fo=[]∧K r0 H') noQE
def a6L(x0:Int)(x1:Int)(x2:Int)(H:Hp)(K:Bool→Hp→Prop):Prop:=
 Ct pG 44 [(vi x0),(vi x1),(vi x2)] H [] (fun v H' Fo=>∃(r0:Bool),v=(vB r0)∧Fo=[]∧K r0 H') noQE
def a2h(x0:b9)(g:(List Int))(i:(List (List Int)))(j:(List d5))(H:Hp)(K:Int→Bool→Hp→Prop):Prop:=
 ∀(g0:Nat),∀(a:Sl)(b:Frag)(c:Sl)(d:Frag)(e:Sl)(f:Frag),RowL 2 1 i6 a g b→RowsL 26 2 1 i6 c i d→RowL 87 3 m6 e j f→Ct pG 19 [(Value.pointer (some ⟨g0,0,none⟩))] H [bx g0 78 (m9 x0 a c e),b,d,f] (fun v H' Fo=>∃(r0:Int)(r1:Bool),v=(Value.tuple #[(vi r0),(vB r1)])∧Fo=[bx g0 78 (m9 x0 a c e),b,d,f]∧K r0 r1 H') noQE
def N0(x0:b9)(q:(List Int))(r:(List (List Int)))(s:(List d5))(x1:b7)(H:Hp)(K:Int→b9→(List Int)→(List (List Int))→(List d5)→Hp→Prop):Prop:=
 ∀(g0:Nat),∀(a:Sl)(b:Frag)(c:Sl)(d:Frag)(e:Sl)(f:Frag),RowL 2 1 i6 a q b→RowsL 26 2 1 i6 c r d→RowL 87 3 m6 e s f→Ct pG 31 [(Value.pointer (some ⟨g0,0,none⟩)),(Value.agg (d7 x1).toArray)] H [bx g0 78 (m9 x0 a c e),b,d,f] (fun v H' Fo=>∃(r0:Int)(y0:b9)(g:(List Int))(i:(List (List Int)))(j:(List d5))(k:Sl)(l:Frag)(m:Sl)(n:Frag)(o:Sl)(p:Frag),v=(vi r0)∧Fo=[bx g0 78 (m9 y0 k m o),l,n,p]∧RowL 2 1 i6 k g l∧RowsL 26 2 1 i6 m i n∧RowL 87 3 m6 o j p∧K r0 y0 g i j H') noQE
def W5(x0:b9)(q:(List Int))(r:(List (List Int)))(s:(List d5))(x1:b7)(H:Hp)(K:Int→b9→(List Int)→(List (List Int))→(List d5)→Hp→Prop):Prop:=
 ∀(g0:Nat),∀(a:Sl)(b:Frag)(c:Sl)(d:Frag)(e:Sl)(f:Frag),RowL 2 1 i6 a q b→RowsL 26 2 1 i6 c r d→RowL 87 3 m6 e s f→Ct pG 32 [(Value.pointer (some ⟨g0,0,none⟩)),(Value.agg (d7 x1).toArray)] H [bx g0 78 (m9 x0 a c e),b,d,f] (fun v H' Fo=>∃(r0:Int)(y0:b9)(g:(List Int))(i:(List (List Int)))(j:(List d5))(k:Sl)(l:Frag)(m:Sl)(n:Frag)(o:Sl)(p:Frag),v=(vi r0)∧Fo=[bx g0 78 (m9 y0 k m o),l,n,p]∧RowL 2 1 i6 k g l∧RowsL 26 2 1 i6 m i n∧RowL 87 3 m6 o j p∧K r0 y0 g i j H') noQE
def a3W(x0:Int)(x1:Int)(H:Hp)(K:Int→Int→Hp→Prop):Prop:=
 Ct pG 71 [(vi x0),(vi x1)] H [] (fun v H' Fo=>∃(r0:Int)(r1:Int),v=(Value.tuple #[(vi r0),(vi r1)])∧Fo=[]∧K r0 r1 H') noQE
def a6M(x0:Int)(H:Hp)(K:Int→Int→Hp→Prop):Prop:=
 Ct pG 69 [(vi x0)] H [] (fun v H' Fo=>∃(r0:Int)(r1:Int),v=(Value.tuple #[(vi r0),(vi r1)])∧Fo=[]∧K r0 r1 H') noQE
def a2T(x0:Int)(x1:Int)(H:Hp)(K:Int→Int→Hp→Prop):Prop:=
 Ct pG 68 [(vi x0),(vi x1)] H [] (fun v H' Fo=>∃(r0:Int)(r1:Int),v=(Value.tuple #[(vi r0),(vi r1)])∧Fo=[]∧K r0 r1 H') noQE
def P2(x0:b9)(q:(List Int))(r:(List (List Int)))(s:(List d5))(x1:b7)(H:Hp)(K:Int→b9→(List Int)→(List (List Int))→(List d5)→Hp→Prop):Prop:=
 ∀(g0:Nat),∀(a:Sl)(b:Frag)(c:Sl)(d:Frag)(e:Sl)(f:Frag),RowL 2 1 i6 a q b→RowsL 26 2 1 i6 c r d→RowL 87 3 m6 e s f→Ct pG 67 [(Value.pointer (some ⟨g0,0,none⟩)),(Value.agg (d7 x1).toArray),(fC 68)] H [bx g0 78 (m9 x0 a c e),b,d,f] (fun v H' Fo=>∃(r0:Int)(y0:b9)(g:(List Int))(i:(List (List Int)))(j:(List d5))(k:Sl)(l:Frag)(m:Sl)(n:Frag)(o:Sl)(p:Frag),v=(vi r0)∧Fo=[bx g0 78 (m9 y0 k m o),l,n,p]∧RowL 2 1 i6 k g l∧RowsL 26 2 1 i6 m i n∧RowL 87 3 m6 o j p∧K r0 y0 g i j H') noQE
def V6(x0:b9)(q:(List Int))(r:(List (List Int)))(s:(List d5))(x1:b7)(H:Hp)(K:Int→b9→(List Int)→(List (List Int))→(List d5)→Hp→Prop):Prop:=
 ∀(g0:Nat),∀(a:Sl)(b:Frag)(c:Sl)(d:Frag)(e:Sl)(f:Frag),RowL 2 1 i6 a q b→RowsL 26 2 1 i6 c r d→RowL 87 3 m6 e s f→Ct pG 33 [(Value.pointer (some ⟨g0,0,none⟩)),(Value.agg (d7 x1).toArray)] H [bx g0 78 (m9 x0 a c e),b,d,f] (fun v H' Fo=>∃(r0:Int)(y0:b9)(g:(List Int))(i:(List (List Int)))(j:(List d5))(k:Sl)(l:Frag)(m:Sl)(n:Frag)(o:Sl)(p:Frag),v=(vi r0)∧Fo=[bx g0 78 (m9 y0 k m o),l,n,p]∧RowL 2 1 i6 k g l∧RowsL 26 2 1 i6 m i n∧RowL 87 3 m6 o j p∧K r0 y0 g i j H') noQE
def a6N(x0:Int)(x1:Int)(H:Hp)(K:Int→Int→Hp→Prop):Prop:=
 Ct pG 70 [(vi x0),(vi x1)] H [] (fun v H' Fo=>∃(r0:Int)(r1:Int),v=(Value.tuple #[(vi r0),(vi r1)])∧Fo=[]∧K r0 r1 H') noQE
def X1(x0:b9)(q:(List Int))(r:(List (List Int)))(s:(List d5))(x1:b7)(H:Hp)(K:Int→b9→(List Int)→(List (List Int))→(List d5)→Hp→Prop):Prop:=
 ∀(g0:Nat),∀(a:Sl)(b:Frag)(c:Sl)(d:Frag)(e:Sl)(f:Frag),RowL 2 1 i6 a q b→RowsL 26 2 1 i6 c r d→RowL 87 3 m6 e s f→Ct pG 67 [(Value.pointer (some ⟨g0,0,none⟩)),(Value.agg (d7 x1).toArray),(fC 70)] H [bx g0 78 (m9 x0 a c e),b,d,f] (fun v H' Fo=>∃(r0:Int)(y0:b9)(g:(List Int))(i:(List (List Int)))(j:(List d5))(k:Sl)(l:Frag)(m:Sl)(n:Frag)(o:Sl)(p:Frag),v=(vi r0)∧Fo=[bx g0 78 (m9 y0 k m o),l,n,p]∧RowL 2 1 i6 k g l∧RowsL 26 2 1 i6 m i n∧RowL 87 3 m6 o j p∧K r0 y0 g i j H') noQE
def a0i(x0:b9)(q:(List Int))(r:(List (List Int)))(s:(List d5))(x1:b7)(H:Hp)(K:Int→b9→(List Int)→(List (List Int))→(List d5)→Hp→Prop):Prop:=
 ∀(g0:Nat),∀(a:Sl)(b:Frag)(c:Sl)(d:Frag)(e:Sl)(f:Frag),RowL 2 1 i6 a q b→RowsL 26 2 1 i6 c r d→RowL 87 3 m6 e s f→Ct pG 34 [(Value.pointer (some ⟨g0,0,none⟩)),(Value.agg (d7 x1).toArray)] H [bx g0 78 (m9 x0 a c e),b,d,f] (fun v H' Fo=>∃(r0:Int)(y0:b9)(g:(List Int))(i:(List (List Int)))(j:(List d5))(k:Sl)(l:Frag)(m:Sl)(n:Frag)(o:Sl)(p:Frag),v=(vi r0)∧Fo=[bx g0 78 (m9 y0 k m o),l,n,p]∧RowL 2 1 i6 k g l∧RowsL 26 2 1 i6 m i n∧RowL 87 3 m6 o j p∧K r0 y0 g i j H') noQE
def X2(x0:b9)(q:(List Int))(r:(List (List Int)))(s:(List d5))(x1:b7)(H:Hp)(K:Int→b9→(List Int)→(List (List Int))→(List d5)→Hp→Prop):Prop:=
 ∀(g0:Nat),∀(a:Sl)(b:Frag)(c:Sl)(d:Frag)(e:Sl)(f:Frag),RowL 2 1 i6 a q b→RowsL 26 2 1 i6 c r d→RowL 87 3 m6 e s f→Ct pG 67 [(Value.pointer (some ⟨g0,0,none⟩)),(Value.agg (d7 x1).toArray),(fC 71)] H [bx g0 78 (m9 x0 a c e),b,d,f] (fun v H' Fo=>∃(r0:Int)(y0:b9)(g:(List Int))(i:(List (List Int)))(j:(List d5))(k:Sl)(l:Frag)(m:Sl)(n:Frag)(o:Sl)(p:Frag),v=(vi r0)∧Fo=[bx g0 78 (m9 y0 k m o),l,n,p]∧RowL 2 1 i6 k g l∧RowsL 26 2 1 i6 m i n∧RowL 87 3 m6 o j p∧K r0 y0 g i j H') noQE
def T5(x0:b9)(q:(List Int))(r:(List (List Int)))(s:(List d5))(x1:b7)(H:Hp)(K:Int→b9→(List Int)→(List (List Int))→(List d5)→Hp→Prop):Prop:=
 ∀(g0:Nat),∀(a:Sl)(b:Frag)(c:Sl)(d:Frag)(e:Sl)(f:Frag),RowL 2 1 i6 a q b→RowsL 26 2 1 i6 c r d→RowL 87 3 m6 e s f→Ct pG 35 [(Value.pointer (some ⟨g0,0,none⟩)),(Value.agg (d7 x1).toArray)] H [bx g0 78 (m9 x0 a c e),b,d,f] (fun v H' Fo=>∃(r0:Int)(y0:b9)(g:(List Int))(i:(List (List Int)))(j:(List d5))(k:Sl)(l:Frag)(m:Sl)(n:Frag)(o:Sl)(p:Frag),v=(vi r0)∧Fo=[bx g0 78 (m9 y0 k m o),l,n,p]∧RowL 2 1 i6 k g l∧RowsL 26 2 1 i6 m i n∧RowL 87 3 m6 o j p∧K r0 y0 g i j H') noQE
def a3f(x0:Int)(H:Hp)(K:Int→Hp→Prop):Prop:=
 Ct pG 96 [(vi x0)] H [] (fun v H' Fo=>∃(r0:Int),v=(Value.int .u64 r0)∧Fo=[]∧K r0 H') noQE
def a6u(x0:Int)(x1:Int)(H:Hp)(K:Int→Int→Hp→Prop):Prop:=
 Ct pG 95 [(Value.int .u64 x0),(Value.int .u64 x1)] H [] (fun v H' Fo=>∃(r0:Int)(r1:Int),v=(Value.tuple #[(Value.int .u64 r0),(Value.int .u64 r1)])∧Fo=[]∧K r0 r1 H') noQE
def a6O(x0:Int)(x1:Int)(H:Hp)(K:Int→Int→Hp→Prop):Prop:=
 Ct pG 72 [(vi x0),(vi x1)] H [] (fun v H' Fo=>∃(r0:Int)(r1:Int),v=(Value.tuple #[(vi r0),(vi r1)])∧Fo=[]∧K r0 r1 H') noQE
def X3(x0:b9)(q:(List Int))(r:(List (List Int)))(s:(List d5))(x1:b7)(H:Hp)(K:Int→b9→(List Int)→(List (List Int))→(List d5)→Hp→Prop):Prop:=
 ∀(g0:Nat),∀(a:Sl)(b:Frag)(c:Sl)(d:Frag)(e:Sl)(f:Frag),RowL 2 1 i6 a q b→RowsL 26 2 1 i6 c r d→RowL 87 3 m6 e s f→Ct pG 67 [(Value.pointer (some ⟨g0,0,none⟩)),(Value.agg (d7 x1).toArray),(fC 72)] H [bx g0 78 (m9 x0 a c e),b,d,f] (fun v H' Fo=>∃(r0:Int)(y0:b9)(g:(List Int))(i:(List (List Int)))(j:(List d5))(k:Sl)(l:Frag)(m:Sl)(n:Frag)(o:Sl)(p:Frag),v=(vi r0)∧Fo=[bx g0 78 (m9 y0 k m o),l,n,p]∧RowL 2 1 i6 k g l∧RowsL 26 2 1 i6 m i n∧RowL 87 3 m6 o j p∧K r0 y0 g i j H') noQE
def T1(x0:b9)(q:(List Int))(r:(List (List Int)))(s:(List d5))(x1:b7)(H:Hp)(K:Int→b9→(List Int)→(List (List Int))→(List d5)→Hp→Prop):Prop:=
 ∀(g0:Nat),∀(a:Sl)(b:Frag)(c:Sl)(d:Frag)(e:Sl)(f:Frag),RowL 2 1 i6 a q b→RowsL 26 2 1 i6 c r d→RowL 87 3 m6 e s f→Ct pG 36 [(Value.pointer (some ⟨g0,0,none⟩)),(Value.agg (d7 x1).toArray)] H [bx g0 78 (m9 x0 a c e),b,d,f] (fun v H' Fo=>∃(r0:Int)(y0:b9)(g:(List Int))(i:(List (List Int)))(j:(List d5))(k:Sl)(l:Frag)(m:Sl)(n:Frag)(o:Sl)(p:Frag),v=(vi r0)∧Fo=[bx g0 78 (m9 y0 k m o),l,n,p]∧RowL 2 1 i6 k g l∧RowsL 26 2 1 i6 m i n∧RowL 87 3 m6 o j p∧K r0 y0 g i j H') noQE
def a1N(x0:Int)(x1:Int)(H:Hp)(K:Int→Hp→Prop):Prop:=
 Ct pG 97 [(vi x0),(vi x1)] H [] (fun v H' Fo=>∃(r0:Int),v=(vi r0)∧Fo=[]∧K r0 H') noQE
def a6P(x0:Int)(x1:Int)(H:Hp)(K:Int→Int→Hp→Prop):Prop:=
 Ct pG 73 [(vi x0),(vi x1)] H [] (fun v H' Fo=>∃(r0:Int)(r1:Int),v=(Value.tuple #[(vi r0),(vi r1)])∧Fo=[]∧K r0 r1 H') noQE
def X4(x0:b9)(q:(List Int))(r:(List (List Int)))(s:(List d5))(x1:b7)(H:Hp)(K:Int→b9→(List Int)→(List (List Int))→(List d5)→Hp→Prop):Prop:=
 ∀(g0:Nat),∀(a:Sl)(b:Frag)(c:Sl)(d:Frag)(e:Sl)(f:Frag),RowL 2 1 i6 a q b→RowsL 26 2 1 i6 c r d→RowL 87 3 m6 e s f→Ct pG 67 [(Value.pointer (some ⟨g0,0,none⟩)),(Value.agg (d7 x1).toArray),(fC 73)] H [bx g0 78 (m9 x0 a c e),b,d,f] (fun v H' Fo=>∃(r0:Int)(y0:b9)(g:(List Int))(i:(List (List Int)))(j:(List d5))(k:Sl)(l:Frag)(m:Sl)(n:Frag)(o:Sl)(p:Frag),v=(vi r0)∧Fo=[bx g0 78 (m9 y0 k m o),l,n,p]∧RowL 2 1 i6 k g l∧RowsL 26 2 1 i6 m i n∧RowL 87 3 m6 o j p∧K r0 y0 g i j H') noQE
def V7(x0:b9)(q:(List Int))(r:(List (List Int)))(s:(List d5))(x1:b7)(H:Hp)(K:Int→b9→(List Int)→(List (List Int))→(List d5)→Hp→Prop):Prop:=
 ∀(g0:Nat),∀(a:Sl)(b:Frag)(c:Sl)(d:Frag)(e:Sl)(f:Frag),RowL 2 1 i6 a q b→RowsL 26 2 1 i6 c r d→RowL 87 3 m6 e s f→Ct pG 37 [(Value.pointer (some ⟨g0,0,none⟩)),(Value.agg (d7 x1).toArray)] H [bx g0 78 (m9 x0 a c e),b,d,f] (fun v H' Fo=>∃(r0:Int)(y0:b9)(g:(List Int))(i:(List (List Int)))(j:(List d5))(k:Sl)(l:Frag)(m:Sl)(n:Frag)(o:Sl)(p:Frag),v=(vi r0)∧Fo=[bx g0 78 (m9 y0 k m o),l,n,p]∧RowL 2 1 i6 k g l∧RowsL 26 2 1 i6 m i n∧RowL 87 3 m6 o j p∧K r0 y0 g i j H') noQE
def a6Q(x0:Int)(x1:Int)(H:Hp)(K:Int→Int→Hp→Prop):Prop:=
 Ct pG 74 [(vi x0),(vi x1)] H [] (fun v H' Fo=>∃(r0:Int)(r1:Int),v=(Value.tuple #[(vi r0),(vi r1)])∧Fo=[]∧K r0 r1 H') noQE
def X5(x0:b9)(q:(List Int))(r:(List (List Int)))(s:(List d5))(x1:b7)(H:Hp)(K:Int→b9→(List Int)→(List (List Int))→(List d5)→Hp→Prop):Prop:=
 ∀(g0:Nat),∀(a:Sl)(b:Frag)(c:Sl)(d:Frag)(e:Sl)(f:Frag),RowL 2 1 i6 a q b→RowsL 26 2 1 i6 c r d→RowL 87 3 m6 e s f→Ct pG 67 [(Value.pointer (some ⟨g0,0,none⟩)),(Value.agg (d7 x1).toArray),(fC 74)] H [bx g0 78 (m9 x0 a c e),b,d,f] (fun v H' Fo=>∃(r0:Int)(y0:b9)(g:(List Int))(i:(List (List Int)))(j:(List d5))(k:Sl)(l:Frag)(m:Sl)(n:Frag)(o:Sl)(p:Frag),v=(vi r0)∧Fo=[bx g0 78 (m9 y0 k m o),l,n,p]∧RowL 2 1 i6 k g l∧RowsL 26 2 1 i6 m i n∧RowL 87 3 m6 o j p∧K r0 y0 g i j H') noQE
def Z3(x0:b9)(q:(List Int))(r:(List (List Int)))(s:(List d5))(x1:b7)(H:Hp)(K:Int→b9→(List Int)→(List (List Int))→(List d5)→Hp→Prop):Prop:=
 ∀(g0:Nat),∀(a:Sl)(b:Frag)(c:Sl)(d:Frag)(e:Sl)(f:Frag),RowL 2 1 i6 a q b→RowsL 26 2 1 i6 c r d→RowL 87 3 m6 e s f→Ct pG 38 [(Value.pointer (some ⟨g0,0,none⟩)),(Value.agg (d7 x1).toArray)] H [bx g0 78 (m9 x0 a c e),b,d,f] (fun v H' Fo=>∃(r0:Int)(y0:b9)(g:(List Int))(i:(List (List Int)))(j:(List d5))(k:Sl)(l:Frag)(m:Sl)(n:Frag)(o:Sl)(p:Frag),v=(vi r0)∧Fo=[bx g0 78 (m9 y0 k m o),l,n,p]∧RowL 2 1 i6 k g l∧RowsL 26 2 1 i6 m i n∧RowL 87 3 m6 o j p∧K r0 y0 g i j H') noQE
def Z4(x0:b9)(q:(List Int))(r:(List (List Int)))(s:(List d5))(x1:b7)(H:Hp)(K:Int→b9→(List Int)→(List (List Int))→(List d5)→Hp→Prop):Prop:=
 ∀(g0:Nat),∀(a:Sl)(b:Frag)(c:Sl)(d:Frag)(e:Sl)(f:Frag),RowL 2 1 i6 a q b→RowsL 26 2 1 i6 c r d→RowL 87 3 m6 e s f→Ct pG 39 [(Value.pointer (some ⟨g0,0,none⟩)),(Value.agg (d7 x1).toArray)] H [bx g0 78 (m9 x0 a c e),b,d,f] (fun v H' Fo=>∃(r0:Int)(y0:b9)(g:(List Int))(i:(List (List Int)))(j:(List d5))(k:Sl)(l:Frag)(m:Sl)(n:Frag)(o:Sl)(p:Frag),v=(vi r0)∧Fo=[bx g0 78 (m9 y0 k m o),l,n,p]∧RowL 2 1 i6 k g l∧RowsL 26 2 1 i6 m i n∧RowL 87 3 m6 o j p∧K r0 y0 g i j H') noQE
def Z5(x0:b9)(q:(List Int))(r:(List (List Int)))(s:(List d5))(x1:b7)(H:Hp)(K:Int→b9→(List Int)→(List (List Int))→(List d5)→Hp→Prop):Prop:=
 ∀(g0:Nat),∀(a:Sl)(b:Frag)(c:Sl)(d:Frag)(e:Sl)(f:Frag),RowL 2 1 i6 a q b→RowsL 26 2 1 i6 c r d→RowL 87 3 m6 e s f→Ct pG 40 [(Value.pointer (some ⟨g0,0,none⟩)),(Value.agg (d7 x1).toArray)] H [bx g0 78 (m9 x0 a c e),b,d,f] (fun v H' Fo=>∃(r0:Int)(y0:b9)(g:(List Int))(i:(List (List Int)))(j:(List d5))(k:Sl)(l:Frag)(m:Sl)(n:Frag)(o:Sl)(p:Frag),v=(vi r0)∧Fo=[bx g0 78 (m9 y0 k m o),l,n,p]∧RowL 2 1 i6 k g l∧RowsL 26 2 1 i6 m i n∧RowL 87 3 m6 o j p∧K r0 y0 g i j H') noQE
def W6(x0:b9)(q:(List Int))(r:(List (List Int)))(s:(List d5))(x1:b7)(H:Hp)(K:Int→b9→(List Int)→(List (List Int))→(List d5)→Hp→Prop):Prop:=
 ∀(g0:Nat),∀(a:Sl)(b:Frag)(c:Sl)(d:Frag)(e:Sl)(f:Frag),RowL 2 1 i6 a q b→RowsL 26 2 1 i6 c r d→RowL 87 3 m6 e s f→Ct pG 41 [(Value.pointer (some ⟨g0,0,none⟩)),(Value.agg (d7 x1).toArray)] H [bx g0 78 (m9 x0 a c e),b,d,f] (fun v H' Fo=>∃(r0:Int)(y0:b9)(g:(List Int))(i:(List (List Int)))(j:(List d5))(k:Sl)(l:Frag)(m:Sl)(n:Frag)(o:Sl)(p:Frag),v=(vi r0)∧Fo=[bx g0 78 (m9 y0 k m o),l,n,p]∧RowL 2 1 i6 k g l∧RowsL 26 2 1 i6 m i n∧RowL 87 3 m6 o j p∧K r0 y0 g i j H') noQE
def W7(x0:b9)(q:(List Int))(r:(List (List Int)))(s:(List d5))(x1:b7)(H:Hp)(K:Int→b9→(List Int)→(List (List Int))→(List d5)→Hp→Prop):Prop:=
 ∀(g0:Nat),∀(a:Sl)(b:Frag)(c:Sl)(d:Frag)(e:Sl)(f:Frag),RowL 2 1 i6 a q b→RowsL 26 2 1 i6 c r d→RowL 87 3 m6 e s f→Ct pG 42 [(Value.pointer (some ⟨g0,0,none⟩)),(Value.agg (d7 x1).toArray)] H [bx g0 78 (m9 x0 a c e),b,d,f] (fun v H' Fo=>∃(r0:Int)(y0:b9)(g:(List Int))(i:(List (List Int)))(j:(List d5))(k:Sl)(l:Frag)(m:Sl)(n:Frag)(o:Sl)(p:Frag),v=(vi r0)∧Fo=[bx g0 78 (m9 y0 k m o),l,n,p]∧RowL 2 1 i6 k g l∧RowsL 26 2 1 i6 m i n∧RowL 87 3 m6 o j p∧K r0 y0 g i j H') noQE
def Z6(x0:b9)(q:(List Int))(r:(List (List Int)))(s:(List d5))(x1:b7)(H:Hp)(K:Int→b9→(List Int)→(List (List Int))→(List d5)→Hp→Prop):Prop:=
 ∀(g0:Nat),∀(a:Sl)(b:Frag)(c:Sl)(d:Frag)(e:Sl)(f:Frag),RowL 2 1 i6 a q b→RowsL 26 2 1 i6 c r d→RowL 87 3 m6 e s f→Ct pG 43 [(Value.pointer (some ⟨g0,0,none⟩)),(Value.agg (d7 x1).toArray)] H [bx g0 78 (m9 x0 a c e),b,d,f] (fun v H' Fo=>∃(r0:Int)(y0:b9)(g:(List Int))(i:(List (List Int)))(j:(List d5))(k:Sl)(l:Frag)(m:Sl)(n:Frag)(o:Sl)(p:Frag),v=(vi r0)∧Fo=[bx g0 78 (m9 y0 k m o),l,n,p]∧RowL 2 1 i6 k g l∧RowsL 26 2 1 i6 m i n∧RowL 87 3 m6 o j p∧K r0 y0 g i j H') noQE
def a7R(H:Hp)(K:Hp→Prop):Prop:=
 Ct pG 18 [] H [] (fun v H' Fo=>v=(Value.agg #[Value.nilFunc,(fC 31),(fC 32),(fC 33),(fC 34),(fC 35),(fC 36),(fC 37),(fC 38),(fC 39),(fC 40),(fC 41),(fC 31),(fC 42),(fC 43)])∧Fo=[]∧K H') noQE
def a2i(x0:Int)(H:Hp)(K:Int→Hp→Prop):Prop:=
 Ct pG 66 [(vi x0)] H [] (fun v H' Fo=>∃(r0:Int),v=(vi r0)∧Fo=[]∧K r0 H') noQE
def a6v(x0:Sl)(H:Hp)(K:Bool→Hp→Prop):Prop:=
 Ct pG 30 [(vs x0)] H [] (fun v H' Fo=>∃(r0:Bool),v=(vB r0)∧Fo=[]∧K r0 H') noQE
def T8(x0:l7)(x1:Int)(H:Hp)(K:Bool→Hp→Prop):Prop:=
 Ct pG 28 [(Value.agg (s7 x0.y8).toArray),(vi x1)] H [] (fun v H' Fo=>∃(r0:Bool),v=(vB r0)∧Fo=[]∧K r0 H') noQE
def a3X(x0:Int)(H:Hp)(K:m5→Hp→Prop):Prop:=
 Ct pG 60 [(vi x0)] H [] (fun v H' Fo=>∃(r0:m5),v=(Value.agg (a7q r0).toArray)∧Fo=[]∧K r0 H') noQE
def V8(x0:l7)(x1:Int)(H:Hp)(K:Bool→Hp→Prop):Prop:=
 Ct pG 62 [(Value.agg (s7 x0.y8).toArray),(vi x1)] H [] (fun v H' Fo=>∃(r0:Bool),v=(vB r0)∧Fo=[]∧K r0 H') noQE
def Y3(x0:Bool)(x1:Bool)(x2:Bool)(H:Hp)(K:Bool→Hp→Prop):Prop:=
 Ct pG 61 [(vB x0),(vB x1),(vB x2)] H [] (fun v H' Fo=>∃(r0:Bool),v=(vB r0)∧Fo=[]∧K r0 H') noQE
def a2j(x0:l7)(x1:Int)(H:Hp)(K:Bool→Hp→Prop):Prop:=
 Ct pG 63 [(Value.agg (s7 x0.y8).toArray),(vi x1)] H [] (fun v H' Fo=>∃(r0:Bool),v=(vB r0)∧Fo=[]∧K r0 H') noQE
def W8(x0:l7)(x1:o3)(H:Hp)(K:Bool→Hp→Prop):Prop:=
 Ct pG 64 [(Value.agg (s7 x0.y8).toArray),(Value.agg (m4 x1).toArray)] H [] (fun v H' Fo=>∃(r0:Bool),v=(vB r0)∧Fo=[]∧K r0 H') noQE
def Q7(H:Hp)(K:o3→Hp→Prop):Prop:=
 Ct pG 65 [] H [] (fun v H' Fo=>∃(r0:o3),v=(Value.agg (m4 r0).toArray)∧Fo=[]∧K r0 H') noQE
def a2k(x0:l7)(x1:b7)(H:Hp)(K:Bool→Hp→Prop):Prop:=
 Ct pG 29 [(Value.agg (s7 x0.y8).toArray),(Value.agg (d7 x1).toArray)] H [] (fun v H' Fo=>∃(r0:Bool),v=(vB r0)∧Fo=[]∧K r0 H') noQE
def a5j(x0:l9)(H:Hp)(K:Int→Hp→Prop):Prop:=
 Ct pG 16 [(Value.agg (s7 x0).toArray)] H [] (fun v H' Fo=>∃(r0:Int),v=(vi r0)∧Fo=[]∧K r0 H') noQE
def a2J(x0:l9)(H:Hp)(K:Sl→Hp→Prop):Prop:=
 Ct pG 17 [(Value.agg (s7 x0).toArray)] H [] (fun v H' Fo=>∃(r0:Sl),v=(vs r0)∧Fo=[]∧K r0 H') noQE
def a1H(x0:l9)(x1:Sl)(x2:Int)(H:Hp)(K:f7→Int→Int→Hp→Prop):Prop:=
 Ct pG 8 [(Value.agg (s7 x0).toArray),(vs x1),(vi x2)] H [] (fun v H' Fo=>∃(r0:f7)(r1:Int)(r2:Int),v=(Value.tuple #[(Value.agg (q7 r0).toArray),(vi r1),(vi r2)])∧Fo=[]∧K r0 r1 r2 H') noQE
def a1v(H:Hp)(K:Bool→Hp→Prop):Prop:=
 Ct pG 4 [] H [] (fun v H' Fo=>∃(r0:Bool),v=(vB r0)∧Fo=[]∧K r0 H') noQE
def a5k(x0:Sl)(x1:Int)(H:Hp)(K:Bool→Hp→Prop):Prop:=
 Ct pG 5 [(vs x0),(vi x1)] H [] (fun v H' Fo=>∃(r0:Bool),v=(vB r0)∧Fo=[]∧K r0 H') noQE
def b0k(x0:z8)(x1:Sl)(x2:Int)(H:Hp)(K:f7→Int→Hp→Prop):Prop:=
 Ct pG 6 [(Value.agg (v7 x0).toArray),(vs x1),(vi x2)] H [] (fun v H' Fo=>∃(r0:f7)(r1:Int),v=(Value.tuple #[(Value.agg (q7 r0).toArray),(vi r1)])∧Fo=[]∧K r0 r1 H') noQE
def a5l(x0:z8)(H:Hp)(K:l9→Int→Hp→Prop):Prop:=
 Ct pG 7 [(Value.agg (v7 x0).toArray)] H [] (fun v H' Fo=>∃(r0:l9)(r1:Int),v=(Value.tuple #[(Value.agg (s7 r0).toArray),(vi r1)])∧Fo=[]∧K r0 r1 H') noQE
def Z7(x0:Sl)(x1:Sl)(H:Hp)(K:Bool→Hp→Prop):Prop:=
 Ct pG 20 [(vs x0),(vs x1)] H [] (fun v H' Fo=>∃(r0:Bool),v=(vB r0)∧Fo=[]∧K r0 H') noQE
def Q1(x0:f7)(x1:f7)(H:Hp)(K:Bool→Hp→Prop):Prop:=
 Ct pG 9 [(Value.agg (q7 x0).toArray),(Value.agg (q7 x1).toArray)] H [] (fun v H' Fo=>∃(r0:Bool),v=(vB r0)∧Fo=[]∧K r0 H') noQE
def a0u(x0:z8)(x1:Sl)(x2:Int)(H:Hp)(K:Bool→Hp→Prop):Prop:=
 Ct pG 3 [(Value.agg (v7 x0).toArray),(vs x1),(vi x2)] H [] (fun v H' Fo=>∃(r0:Bool),v=(vB r0)∧Fo=[]∧K r0 H') noQE
def a7r(x0:j7)(H:Hp)(K:d9→Hp→Prop):Prop:=
 Ct pG 80 [(Value.agg (m3 x0).toArray)] H [] (fun v H' Fo=>∃(r0:d9),v=(E4 r0)∧Fo=[]∧K r0 H') noQE
def K5(x0:Sl)(H:Hp)(K:Sl→Hp→Prop):Prop:=
 Ct pG 79 [(vs x0),(fC 80)] H [] (fun v H' Fo=>∃(r0:Sl),v=(vs r0)∧Fo=[]∧K r0 H') noQE
def a7s(x0:B4)(H:Hp)(K:d9→Hp→Prop):Prop:=
 Ct pG 82 [(Value.agg (p8 x0).toArray)] H [] (fun v H' Fo=>∃(r0:d9),v=(E4 r0)∧Fo=[]∧K r0 H') noQE
def B7(x0:Sl)(H:Hp)(K:Sl→Hp→Prop):Prop:=
 Ct pG 81 [(vs x0),(fC 82)] H [] (fun v H' Fo=>∃(r0:Sl),v=(vs r0)∧Fo=[]∧K r0 H') noQE
def Q2(x1:Int)(H:Hp)(K:(List d9)→Hp→Prop):Prop:=
 Ct pG 107 [(nS),(vi x1)] H [] (fun v H' Fo=>∃(r0:(List d9))(sr0:Sl)(Fr0:Frag),v=(vs sr0)∧Fo=[Fr0]∧RowL 157 1 v8 sr0 r0 Fr0∧K r0 H') noQE
def D1(x0:Sl)(H:Hp)(K:Sl→Hp→Prop):Prop:=
 Ct pG 78 [(vs x0)] H [] (fun v H' Fo=>∃(r0:Sl),v=(vs r0)∧Fo=[]∧K r0 H') noQE
def a1k(x0:d9)(H:Hp)(K:ByteArray→Bool→Hp→Prop):Prop:=
 Ct pG 113 [(E4 x0)] H [] (fun v H' Fo=>∃(r0:ByteArray)(r1:Bool),v=(Value.tuple #[(Value.string r0),(vB r1)])∧Fo=[]∧K r0 r1 H') noQE
def L1(x0:Int)(x1:Int)(x2:Int)(H:Hp)(K:Bool→Hp→Prop):Prop:=
 ∀(g2:Nat),Ct pG 124 [(Value.int .i32 x0),(Value.int .i32 x1),(Value.pointer (some ⟨g2,0,none⟩))] H [bx g2 21 [(Value.int .i32 x2)]] (fun v H' Fo=>∃(r0:Bool),v=(vB r0)∧Fo=[bx g2 21 [(Value.int .i32 x2)]]∧K r0 H') noQE
def a2u(x0:Int)(H:Hp)(K:Int→Hp→Prop):Prop:=
 Ct pG 120 [(Value.int .i32 x0)] H [] (fun v H' Fo=>∃(r0:Int),v=(vi r0)∧Fo=[]∧K r0 H') noQE
def a4G(x0:Int)(H:Hp)(K:Bool→Hp→Prop):Prop:=
 Ct pG 119 [(Value.int .i32 x0)] H [] (fun v H' Fo=>∃(r0:Bool),v=(vB r0)∧Fo=[]∧K r0 H') noQE
def a4q(x0:ByteArray)(H:Hp)(K:Bool→Hp→Prop):Prop:=
 Ct pG 116 [(Value.string x0)] H [] (fun v H' Fo=>∃(r0:Bool),v=(vB r0)∧Fo=[]∧K r0 H') noQE
def Y4(x0:ByteArray)(H:Hp)(K:Int→Hp→Prop):Prop:=
 Ct pG 123 [(Value.string x0)] H [] (fun v H' Fo=>∃(r0:Int),v=(vi r0)∧Fo=[]∧K r0 H') noQE
def a6w(x0:ByteArray)(H:Hp)(K:Bool→Hp→Prop):Prop:=
 Ct pG 117 [(Value.string x0)] H [] (fun v H' Fo=>∃(r0:Bool),v=(vB r0)∧Fo=[]∧K r0 H') noQE
def a6x(x0:ByteArray)(H:Hp)(K:Bool→Hp→Prop):Prop:=
 Ct pG 118 [(Value.string x0)] H [] (fun v H' Fo=>∃(r0:Bool),v=(vB r0)∧Fo=[]∧K r0 H') noQE
def a3g(x0:ByteArray)(H:Hp)(K:Bool→Hp→Prop):Prop:=
 Ct pG 114 [(Value.string x0)] H [] (fun v H' Fo=>∃(r0:Bool),v=(vB r0)∧Fo=[]∧K r0 H') noQE
def a0M(x0:(List ByteArray))(x1:ByteArray)(H:Hp)(K:Int→Hp→Prop):Prop:=
 ∀(sx0:Sl)(Fx0:Frag),RowL 9 1 C8 sx0 x0 Fx0→Ct pG 121 [(vs sx0),(Value.string x1)] H [Fx0] (fun v H' Fo=>∃(r0:Int),v=(vi r0)∧Fo=[Fx0]∧K r0 H') noQE
def R8(x0:(List ByteArray))(x1:ByteArray)(H:Hp)(K:Bool→Hp→Prop):Prop:=
 ∀(sx0:Sl)(Fx0:Frag),RowL 9 1 C8 sx0 x0 Fx0→Ct pG 115 [(vs sx0),(Value.string x1)] H [Fx0] (fun v H' Fo=>∃(r0:Bool),v=(vB r0)∧Fo=[Fx0]∧K r0 H') noQE
def a1w(x0:p9)(f:(List ByteArray))(x1:d9)(x2:Int)(H:Hp)(K:Bool→p9→(List ByteArray)→Hp→Prop):Prop:=
 ∀(g0:Nat),∀(a:Sl)(b:Frag),RowL 9 1 C8 a f b→Ct pG 106 [(Value.pointer (some ⟨g0,0,none⟩)),(E4 x1),(vi x2)] H [bx g0 116 (a0L x0 a),b] (fun v H' Fo=>∃(r0:Bool)(y0:p9)(c:(List ByteArray))(d:Sl)(e:Frag),v=(vB r0)∧Fo=[bx g0 116 (a0L y0 d),e]∧RowL 9 1 C8 d c e∧K r0 y0 c H') noQE
def W2(x0:Sl)(x1:Int)(x2:p9)(f:(List ByteArray))(H:Hp)(K:Bool→p9→(List ByteArray)→Hp→Prop):Prop:=
 ∀(g2 g2b g3:Nat),∀(a:Sl)(b:Frag),RowL 9 1 C8 a f b→Ct pG 105 [(vs x0),(vi x1),(Value.pointer (some ⟨g2,0,none⟩)),(Value.pointer (some ⟨g3,0,none⟩))] H [bx g2 117 [(Value.pointer (some ⟨g2b,0,none⟩))],bx g2b 116 (a0L x2 a),b,bx g3 182 [(Value.func (.func 105) #[] #[(Value.pointer (some ⟨g2,0,none⟩)),(Value.pointer (some ⟨g3,0,none⟩))])]] (fun v H' Fo=>∃(r0:Bool)(y0:p9)(c:(List ByteArray))(d:Sl)(e:Frag),v=(vB r0)∧Fo=[bx g2 117 [(Value.pointer (some ⟨g2b,0,none⟩))],bx g2b 116 (a0L y0 d),e,bx g3 182 [(Value.func (.func 105) #[] #[(Value.pointer (some ⟨g2,0,none⟩)),(Value.pointer (some ⟨g3,0,none⟩))])]]∧RowL 9 1 C8 d c e∧K r0 y0 c H') noQE
def a3Y(x0:Sl)(H:Hp)(K:p9→Hp→Prop):Prop:=
 Ct pG 77 [(vs x0)] H [] (fun v H' Fo=>∃(r0:p9)(gr0:Nat),v=(Value.pointer (some ⟨gr0,0,none⟩))∧Fo=[bx gr0 116 (b1F r0)]∧K r0 H') noQE
def a6y(x0:z8)(H:Hp)(K:p9→Hp→Prop):Prop:=
 Ct pG 46 [(Value.agg (v7 x0).toArray)] H [] (fun v H' Fo=>∃(r0:p9)(gr0:Nat),v=(Value.pointer (some ⟨gr0,0,none⟩))∧Fo=[bx gr0 116 (b1F r0)]∧K r0 H') noQE
def a4H(x0:z8)(H:Hp)(K:Int→Hp→Prop):Prop:=
 Ct pG 21 [(Value.agg (v7 x0).toArray)] H [] (fun v H' Fo=>∃(r0:Int),v=(vi r0)∧Fo=[]∧K r0 H') noQE
def a6F(x0:Sl)(H:Hp)(K:(Option Nat)→ByteArray→Int→Hp→Prop):Prop:=
 Ct pG 22 [(vs x0)] H [] (fun v H' Fo=>∃(r0:(Option Nat))(r1:ByteArray)(r2:Int),v=(Value.tuple #[(Value.map r0),(Value.string r1),(vi r2)])∧Fo=[]∧K r0 r1 r2 H') noQE
def T2(x0:p7)(f:(List g8))(x1:q8)(H:Hp)(K:p7→(List g8)→Hp→Prop):Prop:=
 ∀(g0:Nat),∀(a:Sl)(b:Frag),RowL 97 2 C2 a f b→Ct pG 49 [(Value.pointer (some ⟨g0,0,none⟩)),(Value.agg (j9 x1).toArray)] H [bx g0 94 [(vs a)],b] (fun v H' Fo=>∃(y0:p7)(c:(List g8))(d:Sl)(e:Frag),v=(Value.tuple #[])∧Fo=[bx g0 94 [(vs d)],e]∧RowL 97 2 C2 d c e∧K y0 c H') noQE
def Z8(x0:p7)(f:(List g8))(x1:y9)(H:Hp)(K:p7→(List g8)→Hp→Prop):Prop:=
 ∀(g0:Nat),∀(a:Sl)(b:Frag),RowL 97 2 C2 a f b→Ct pG 48 [(Value.pointer (some ⟨g0,0,none⟩)),(Value.agg (p5 x1).toArray)] H [bx g0 94 [(vs a)],b] (fun v H' Fo=>∃(y0:p7)(c:(List g8))(d:Sl)(e:Frag),v=(Value.tuple #[])∧Fo=[bx g0 94 [(vs d)],e]∧RowL 97 2 C2 d c e∧K y0 c H') noQE
def Q9(x0:p7)(f:(List g8))(x1:Sl)(H:Hp)(K:p7→(List g8)→Hp→Prop):Prop:=
 ∀(g0:Nat),∀(a:Sl)(b:Frag),RowL 97 2 C2 a f b→Ct pG 23 [(Value.pointer (some ⟨g0,0,none⟩)),(vs x1)] H [bx g0 94 [(vs a)],b] (fun v H' Fo=>∃(y0:p7)(c:(List g8))(d:Sl)(e:Frag),v=(Value.tuple #[])∧Fo=[bx g0 94 [(vs d)],e]∧RowL 97 2 C2 d c e∧K y0 c H') noQE
def a7S(x0:z8)(H:Hp)(K:ByteArray→Int→Hp→Prop):Prop:=
 Ct pG 10 [(Value.agg (v7 x0).toArray)] H [] (fun v H' Fo=>∃(r0:ByteArray)(r1:Int),v=(Value.tuple #[(Value.string r0),(vi r1)])∧Fo=[]∧K r0 r1 H') noQE
def a6R(x0:z8)(x1:Int)(H:Hp)(K:Sl→Int→Hp→Prop):Prop:=
 Ct pG 26 [(Value.agg (v7 x0).toArray),(vi x1)] H [] (fun v H' Fo=>∃(r0:Sl)(r1:Int),v=(Value.tuple #[(vs r0),(vi r1)])∧Fo=[]∧K r0 r1 H') noQE
def a8v(x0:z8)(H:Hp)(K:Sl→Int→Hp→Prop):Prop:=
 Ct pG 12 [(Value.agg (v7 x0).toArray)] H [] (fun v H' Fo=>∃(r0:Sl)(r1:Int),v=(Value.tuple #[(vs r0),(vi r1)])∧Fo=[]∧K r0 r1 H') noQE
def a7t(x0:z8)(H:Hp)(K:Sl→Int→Hp→Prop):Prop:=
 Ct pG 13 [(Value.agg (v7 x0).toArray)] H [] (fun v H' Fo=>∃(r0:Sl)(r1:Int),v=(Value.tuple #[(vs r0),(vi r1)])∧Fo=[]∧K r0 r1 H') noQE
def D4(x0:f6)(f:(List b7))(H:Hp)(K:Int→f6→(List b7)→Hp→Prop):Prop:=
 ∀(g0:Nat),∀(a:Sl)(b:Frag),RowL 49 10 d7 a f b→Ct pG 14 [(Value.pointer (some ⟨g0,0,none⟩))] H [bx g0 70 (t6 x0 a),b] (fun v H' Fo=>∃(r0:Int)(y0:f6)(c:(List b7))(d:Sl)(e:Frag),v=(vi r0)∧Fo=[bx g0 70 (t6 y0 d),e]∧RowL 49 10 d7 d c e∧K r0 y0 c H') noQE
def W9(x0:f6)(c:(List b7))(x1:q8)(H:Hp)(K:o3→Bool→Hp→Prop):Prop:=
 ∀(g0:Nat),∀(a:Sl)(b:Frag),RowL 49 10 d7 a c b→Ct pG 91 [(Value.pointer (some ⟨g0,0,none⟩)),(Value.agg (j9 x1).toArray)] H [bx g0 70 (t6 x0 a),b] (fun v H' Fo=>∃(r0:o3)(r1:Bool),v=(Value.tuple #[(Value.agg (m4 r0).toArray),(vB r1)])∧Fo=[bx g0 70 (t6 x0 a),b]∧K r0 r1 H') noQE
def C4(x0:f6)(f:(List b7))(x1:b7)(H:Hp)(K:f6→(List b7)→Hp→Prop):Prop:=
 ∀(g0:Nat),∀(a:Sl)(b:Frag),RowL 49 10 d7 a f b→Ct pG 57 [(Value.pointer (some ⟨g0,0,none⟩)),(Value.agg (d7 x1).toArray)] H [bx g0 70 (t6 x0 a),b] (fun v H' Fo=>∃(y0:f6)(c:(List b7))(d:Sl)(e:Frag),v=(Value.tuple #[])∧Fo=[bx g0 70 (t6 y0 d),e]∧RowL 49 10 d7 d c e∧K y0 c H') noQE
def a4I(x0:Int)(H:Hp)(K:Int→Hp→Prop):Prop:=
 Ct pG 111 [(vi x0)] H [] (fun v H' Fo=>∃(r0:Int),v=(vi r0)∧Fo=[]∧K r0 H') noQE
def M0(x0:Int)(x1:Int)(x2:Int)(H:Hp)(K:b7→Hp→Prop):Prop:=
 Ct pG 55 [(vi x0),(vi x1),(vi x2)] H [] (fun v H' Fo=>∃(r0:b7),v=(Value.agg (d7 r0).toArray)∧Fo=[]∧K r0 H') noQE
def a1O(x0:f6)(f:(List b7))(x1:Int)(H:Hp)(K:Int→f6→(List b7)→Hp→Prop):Prop:=
 ∀(g0:Nat),∀(a:Sl)(b:Frag),RowL 49 10 d7 a f b→Ct pG 112 [(Value.pointer (some ⟨g0,0,none⟩)),(vi x1)] H [bx g0 70 (t6 x0 a),b] (fun v H' Fo=>∃(r0:Int)(y0:f6)(c:(List b7))(d:Sl)(e:Frag),v=(vi r0)∧Fo=[bx g0 70 (t6 y0 d),e]∧RowL 49 10 d7 d c e∧K r0 y0 c H') noQE
def P3(x0:f6)(f:(List b7))(x1:q8)(x2:Int)(x3:Int)(H:Hp)(K:o3→Int→f6→(List b7)→Hp→Prop):Prop:=
 ∀(g0:Nat),∀(a:Sl)(b:Frag),RowL 49 10 d7 a f b→Ct pG 93 [(Value.pointer (some ⟨g0,0,none⟩)),(Value.agg (j9 x1).toArray),(vi x2),(vi x3)] H [bx g0 70 (t6 x0 a),b] (fun v H' Fo=>∃(r0:o3)(r1:Int)(y0:f6)(c:(List b7))(d:Sl)(e:Frag),v=(Value.tuple #[(Value.agg (m4 r0).toArray),(vi r1)])∧Fo=[bx g0 70 (t6 y0 d),e]∧RowL 49 10 d7 d c e∧K r0 r1 y0 c H') noQE
def a1l(x0:f6)(c:(List b7))(x1:o3)(x2:Int)(H:Hp)(K:Int→Hp→Prop):Prop:=
 ∀(g0:Nat),∀(a:Sl)(b:Frag),RowL 49 10 d7 a c b→Ct pG 94 [(Value.pointer (some ⟨g0,0,none⟩)),(Value.agg (m4 x1).toArray),(vi x2)] H [bx g0 70 (t6 x0 a),b] (fun v H' Fo=>∃(r0:Int),v=(vi r0)∧Fo=[bx g0 70 (t6 x0 a),b]∧K r0 H') noQE
def T9(x0:f6)(f:(List b7))(x1:Sl)(x2:Int)(x3:Int)(H:Hp)(K:o3→o3→Int→f6→(List b7)→Hp→Prop):Prop:=
 ∀(g0:Nat),∀(a:Sl)(b:Frag),RowL 49 10 d7 a f b→Ct pG 56 [(Value.pointer (some ⟨g0,0,none⟩)),(vs x1),(vi x2),(vi x3)] H [bx g0 70 (t6 x0 a),b] (fun v H' Fo=>∃(r0:o3)(r1:o3)(r2:Int)(y0:f6)(c:(List b7))(d:Sl)(e:Frag),v=(Value.tuple #[(Value.agg (m4 r0).toArray),(Value.agg (m4 r1).toArray),(vi r2)])∧Fo=[bx g0 70 (t6 y0 d),e]∧RowL 49 10 d7 d c e∧K r0 r1 r2 y0 c H') noQE
def Z9(x0:f6)(f:(List b7))(x1:q8)(x2:Int)(x3:Int)(x4:Int)(x5:Int)(H:Hp)(K:f6→(List b7)→Hp→Prop):Prop:=
 ∀(g0:Nat),∀(a:Sl)(b:Frag),RowL 49 10 d7 a f b→Ct pG 92 [(Value.pointer (some ⟨g0,0,none⟩)),(Value.agg (j9 x1).toArray),(vi x2),(vi x3),(vi x4),(vi x5)] H [bx g0 70 (t6 x0 a),b] (fun v H' Fo=>∃(y0:f6)(c:(List b7))(d:Sl)(e:Frag),v=(Value.tuple #[])∧Fo=[bx g0 70 (t6 y0 d),e]∧RowL 49 10 d7 d c e∧K y0 c H') noQE
def a1m(x0:f6)(f:(List b7))(x1:Int)(x2:q8)(x3:Int)(x4:Int)(H:Hp)(K:f6→(List b7)→Hp→Prop):Prop:=
 ∀(g0:Nat),∀(a:Sl)(b:Frag),RowL 49 10 d7 a f b→Ct pG 54 [(Value.pointer (some ⟨g0,0,none⟩)),(vi x1),(Value.agg (j9 x2).toArray),(vi x3),(vi x4)] H [bx g0 70 (t6 x0 a),b] (fun v H' Fo=>∃(y0:f6)(c:(List b7))(d:Sl)(e:Frag),v=(Value.tuple #[])∧Fo=[bx g0 70 (t6 y0 d),e]∧RowL 49 10 d7 d c e∧K y0 c H') noQE
def Q3(x0:f6)(f:(List b7))(x1:Sl)(x2:Int)(H:Hp)(K:Int→f6→(List b7)→Hp→Prop):Prop:=
 ∀(g0:Nat),∀(a:Sl)(b:Frag),RowL 49 10 d7 a f b→Ct pG 58 [(Value.pointer (some ⟨g0,0,none⟩)),(vs x1),(vi x2)] H [bx g0 70 (t6 x0 a),b] (fun v H' Fo=>∃(r0:Int)(y0:f6)(c:(List b7))(d:Sl)(e:Frag),v=(vi r0)∧Fo=[bx g0 70 (t6 y0 d),e]∧RowL 49 10 d7 d c e∧K r0 y0 c H') noQE
def C9(x0:f6)(f:(List b7))(x1:y9)(x2:Int)(x3:Int)(x4:Int)(H:Hp)(K:f6→(List b7)→Hp→Prop):Prop:=
 ∀(g0:Nat),∀(a:Sl)(b:Frag),RowL 49 10 d7 a f b→Ct pG 59 [(Value.pointer (some ⟨g0,0,none⟩)),(Value.agg (p5 x1).toArray),(vi x2),(vi x3),(vi x4)] H [bx g0 70 (t6 x0 a),b] (fun v H' Fo=>∃(y0:f6)(c:(List b7))(d:Sl)(e:Frag),v=(Value.tuple #[])∧Fo=[bx g0 70 (t6 y0 d),e]∧RowL 49 10 d7 d c e∧K y0 c H') noQE
def a1P(x0:f6)(f:(List b7))(x1:B4)(x2:Int)(x3:Int)(H:Hp)(K:f6→(List b7)→Hp→Prop):Prop:=
 ∀(g0:Nat),∀(a:Sl)(b:Frag),RowL 49 10 d7 a f b→Ct pG 27 [(Value.pointer (some ⟨g0,0,none⟩)),(Value.agg (p8 x1).toArray),(vi x2),(vi x3)] H [bx g0 70 (t6 x0 a),b] (fun v H' Fo=>∃(y0:f6)(c:(List b7))(d:Sl)(e:Frag),v=(Value.tuple #[])∧Fo=[bx g0 70 (t6 y0 d),e]∧RowL 49 10 d7 d c e∧K y0 c H') noQE
def O0(x0:f6)(f:(List b7))(x1:Sl)(x2:Int)(x3:Int)(H:Hp)(K:f6→(List b7)→Hp→Prop):Prop:=
 ∀(g0:Nat),∀(a:Sl)(b:Frag),RowL 49 10 d7 a f b→Ct pG 15 [(Value.pointer (some ⟨g0,0,none⟩)),(vs x1),(vi x2),(vi x3)] H [bx g0 70 (t6 x0 a),b] (fun v H' Fo=>∃(y0:f6)(c:(List b7))(d:Sl)(e:Frag),v=(Value.tuple #[])∧Fo=[bx g0 70 (t6 y0 d),e]∧RowL 49 10 d7 d c e∧K y0 c H') noQE
def a8w(x0:j7)(H:Hp)(K:Int→Hp→Prop):Prop:=
 Ct pG 47 [(Value.agg (m3 x0).toArray)] H [] (fun v H' Fo=>∃(r0:Int),v=(vi r0)∧Fo=[]∧K r0 H') noQE
def a7b(x0:q8)(H:Hp)(K:Int→Bool→Hp→Prop):Prop:=
 Ct pG 108 [(Value.agg (j9 x0).toArray)] H [] (fun v H' Fo=>∃(r0:Int)(r1:Bool),v=(Value.tuple #[(vi r0),(vB r1)])∧Fo=[]∧K r0 r1 H') noQE
def a6j(x0:W3)(H:Hp)(K:Bool→Hp→Prop):Prop:=
 Ct pG 141 [(Value.agg (m3 x0.a0G).toArray)] H [] (fun v H' Fo=>∃(r0:Bool),v=(vB r0)∧Fo=[]∧K r0 H') noQE
def a5m(x0:W3)(H:Hp)(K:Sl→Hp→Prop):Prop:=
 Ct pG 142 [(Value.agg (m3 x0.a0G).toArray)] H [] (fun v H' Fo=>∃(r0:Sl),v=(vs r0)∧Fo=[]∧K r0 H') noQE
def a2x(x0:S9)(H:Hp)(K:Bool→Hp→Prop):Prop:=
 Ct pG 143 [(Value.agg (p8 x0.p6).toArray)] H [] (fun v H' Fo=>∃(r0:Bool),v=(vB r0)∧Fo=[]∧K r0 H') noQE
def a7u(x0:y9)(H:Hp)(K:d9→Hp→Prop):Prop:=
 Ct pG 146 [(Value.agg (p5 x0).toArray)] H [] (fun v H' Fo=>∃(r0:d9),v=(E4 r0)∧Fo=[]∧K r0 H') noQE
def D5(x0:Sl)(H:Hp)(K:Sl→Hp→Prop):Prop:=
 Ct pG 145 [(vs x0),(fC 146)] H [] (fun v H' Fo=>∃(r0:Sl),v=(vs r0)∧Fo=[]∧K r0 H') noQE
def a7v(x0:q8)(H:Hp)(K:d9→Hp→Prop):Prop:=
 Ct pG 148 [(Value.agg (j9 x0).toArray)] H [] (fun v H' Fo=>∃(r0:d9),v=(E4 r0)∧Fo=[]∧K r0 H') noQE
def B8(x0:Sl)(H:Hp)(K:Sl→Hp→Prop):Prop:=
 Ct pG 147 [(vs x0),(fC 148)] H [] (fun v H' Fo=>∃(r0:Sl),v=(vs r0)∧Fo=[]∧K r0 H') noQE
def a5o(x0:S9)(H:Hp)(K:Sl→Hp→Prop):Prop:=
 Ct pG 144 [(Value.agg (p8 x0.p6).toArray)] H [] (fun v H' Fo=>∃(r0:Sl),v=(vs r0)∧Fo=[]∧K r0 H') noQE
def a2y(x0:M9)(H:Hp)(K:Bool→Hp→Prop):Prop:=
 Ct pG 149 [(Value.agg (j9 x0.A6).toArray)] H [] (fun v H' Fo=>∃(r0:Bool),v=(vB r0)∧Fo=[]∧K r0 H') noQE
def a5p(x0:M9)(H:Hp)(K:Sl→Hp→Prop):Prop:=
 Ct pG 150 [(Value.agg (j9 x0.A6).toArray)] H [] (fun v H' Fo=>∃(r0:Sl),v=(vs r0)∧Fo=[]∧K r0 H') noQE
def a2z(x0:T0)(H:Hp)(K:Bool→Hp→Prop):Prop:=
 Ct pG 152 [(Value.agg (p5 x0.z6).toArray)] H [] (fun v H' Fo=>∃(r0:Bool),v=(vB r0)∧Fo=[]∧K r0 H') noQE
def a5q(x0:T0)(H:Hp)(K:Sl→Hp→Prop):Prop:=
 Ct pG 153 [(Value.agg (p5 x0.z6).toArray)] H [] (fun v H' Fo=>∃(r0:Sl),v=(vs r0)∧Fo=[]∧K r0 H') noQE
def a3Z(x:d9)(H:Hp)(K:Bool→Hp→Prop):Prop:=match x with
 | .nil=>False
 | .M5 y=>a6j y H K
 | .K6 y=>a2x y H K
 | .K1 y=>a2y y H K
 | .N1 y=>a2z y H K
def a3u(x:d9)(H:Hp)(K:Sl→Hp→Prop):Prop:=match x with
 | .nil=>False
 | .M5 y=>a5m y H K
 | .K6 y=>a5o y H K
 | .K1 y=>a5p y H K
 | .N1 y=>a5q y H K
theorem b1H {E : Pan} {w0 w : World} {ps : Nat → Prop} {H0 H : Hp} {Fr : List Frag} {K : RT} {Kc : Bool → Hp → Prop} {x : d9} (I : Inv w0 ps H0 H Fr w) (h : a3Z x H Kc) (hq : ∀ (r0 : Bool) (H' : Hp) (w' : World), Inv w0 ps H0 H' Fr w' → Hle H H' → (∀ i, i < w.heap.size → ¬ inF [] i → w'.heap[i]? = w.heap[i]?) → Kc r0 H' → K (vB r0) w') : oP E (xInvoke (E4 x) "gnomon/tree.form" []) w K := by
 cases x with
 | nil=>exact h.elim
 | M5 y=>exact a2O (f:=141) (args:=[(Value.agg (m3 y.a0G).toArray)].toArray) (by kernel_rfl) (O2 (Fi:=[]) I h (fun v H' Fo w' I' l hk hq'=>by obtain ⟨r0,rfl,rfl,hK⟩:=hq';exact hq r0 H' w' I' l hk hK) (fun _ _ _ _ _ q=>q.elim))
 | K6 y=>exact a2O (f:=143) (args:=[(Value.agg (p8 y.p6).toArray)].toArray) (by kernel_rfl) (O2 (Fi:=[]) I h (fun v H' Fo w' I' l hk hq'=>by obtain ⟨r0,rfl,rfl,hK⟩:=hq';exact hq r0 H' w' I' l hk hK) (fun _ _ _ _ _ q=>q.elim))
 | K1 y=>exact a2O (f:=149) (args:=[(Value.agg (j9 y.A6).toArray)].toArray) (by kernel_rfl) (O2 (Fi:=[]) I h (fun v H' Fo w' I' l hk hq'=>by obtain ⟨r0,rfl,rfl,hK⟩:=hq';exact hq r0 H' w' I' l hk hK) (fun _ _ _ _ _ q=>q.elim))
 | N1 y=>exact a2O (f:=152) (args:=[(Value.agg (p5 y.z6).toArray)].toArray) (by kernel_rfl) (O2 (Fi:=[]) I h (fun v H' Fo w' I' l hk hq'=>by obtain ⟨r0,rfl,rfl,hK⟩:=hq';exact hq r0 H' w' I' l hk hK) (fun _ _ _ _ _ q=>q.elim))
theorem b1t {E : Pan} {w0 w : World} {ps : Nat → Prop} {H0 H : Hp} {Fr : List Frag} {K : RT} {Kc : Sl → Hp → Prop} {x : d9} (I : Inv w0 ps H0 H Fr w) (h : a3u x H Kc) (hq : ∀ (r0 : Sl) (H' : Hp) (w' : World), Inv w0 ps H0 H' Fr w' → Hle H H' → (∀ i, i < w.heap.size → ¬ inF [] i → w'.heap[i]? = w.heap[i]?) → Kc r0 H' → K (vs r0) w') : oP E (xInvoke (E4 x) "gnomon/tree.parts" []) w K := by
 cases x with
 | nil=>exact h.elim
 | M5 y=>exact a2O (f:=142) (args:=[(Value.agg (m3 y.a0G).toArray)].toArray) (by kernel_rfl) (O2 (Fi:=[]) I h (fun v H' Fo w' I' l hk hq'=>by obtain ⟨r0,rfl,rfl,hK⟩:=hq';exact hq r0 H' w' I' l hk hK) (fun _ _ _ _ _ q=>q.elim))
 | K6 y=>exact a2O (f:=144) (args:=[(Value.agg (p8 y.p6).toArray)].toArray) (by kernel_rfl) (O2 (Fi:=[]) I h (fun v H' Fo w' I' l hk hq'=>by obtain ⟨r0,rfl,rfl,hK⟩:=hq';exact hq r0 H' w' I' l hk hK) (fun _ _ _ _ _ q=>q.elim))
 | K1 y=>exact a2O (f:=150) (args:=[(Value.agg (j9 y.A6).toArray)].toArray) (by kernel_rfl) (O2 (Fi:=[]) I h (fun v H' Fo w' I' l hk hq'=>by obtain ⟨r0,rfl,rfl,hK⟩:=hq';exact hq r0 H' w' I' l hk hK) (fun _ _ _ _ _ q=>q.elim))
 | N1 y=>exact a2O (f:=153) (args:=[(Value.agg (p5 y.z6).toArray)].toArray) (by kernel_rfl) (O2 (Fi:=[]) I h (fun v H' Fo w' I' l hk hq'=>by obtain ⟨r0,rfl,rfl,hK⟩:=hq';exact hq r0 H' w' I' l hk hK) (fun _ _ _ _ _ q=>q.elim))
end Go.Proofs.YthaaobpfbgcfiaaGreatDoor
