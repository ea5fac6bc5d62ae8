/- Contracts of the program's functions; printed by lift.py off the code. -/
import Derived.Test.YthklmeihgmcljaaGreatDoorzQU1
import Derived.Test.YthklmeihgmcljaaGreatDoorzQG1a
import Derived.Test.YthklmeihgmcljaaGreatDoorzQG1b
import Derived.Test.YthklmeihgmcljaaGreatDoorzQG1c
namespace Go.Proofs.YthklmeihgmcljaaGreatDoor
open Go.RowKit
set_option maxRecDepth 100000
set_option maxHeartbeats 2000000
def K8 (x0:ByteArray) (H:Hp) (K:p6→b7→Int→Hp→Prop):Prop:=
 Ct pG 20 [(Value.string x0),(fC 21),(fC 12)] H [] (fun v H' Fo=>∃(r0:p6) (r1:b7) (r2:Int),v=(Value.tuple #[(Value.agg (u2 r0).toArray),(Value.agg (b9 r1).toArray),(vi r2)])∧Fo=[]∧K r0 r1 r2 H') noQE
def a3T (x0:ByteArray) (H:Hp) (K:p6→b7→Int→Hp→Prop):Prop:=
 Ct pG 9 [(Value.string x0)] H [] (fun v H' Fo=>∃(r0:p6) (r1:b7) (r2:Int),v=(Value.tuple #[(Value.agg (u2 r0).toArray),(Value.agg (b9 r1).toArray),(vi r2)])∧Fo=[]∧K r0 r1 r2 H') noQE
def a3U (H:Hp) (K:Bool→Hp→Prop):Prop:=
 Ct pG 8 [] H [] (fun v H' Fo=>∃(r0:Bool),v=(vB r0)∧Fo=[]∧K r0 H') noQE
def K9 (x0:b8) (H:Hp) (K:b6→Hp→Prop):Prop:=
 ∀(g0:Nat),Ct pG 63 [(Value.pointer (some ⟨g0,0,none⟩))] H [bx g0 66 (i7 x0)] (fun v H' Fo=>∃(r0:b6),v=(Value.agg (f9 r0).toArray)∧Fo=[bx g0 66 (i7 x0)]∧K r0 H') noQE
def p8 (x0:b8) (x1:Int) (H:Hp) (K:b8→Hp→Prop):Prop:=
 ∀(g0:Nat),Ct pG 66 [(Value.pointer (some ⟨g0,0,none⟩)),(vi x1)] H [bx g0 66 (i7 x0)] (fun v H' Fo=>∃(y0:b8),v=(Value.tuple #[])∧Fo=[bx g0 66 (i7 y0)]∧K y0 H') noQE
def T1 (x0:b8) (H:Hp) (K:b7→Int→b8→Hp→Prop):Prop:=
 ∀(g0:Nat),Ct pG 27 [(Value.pointer (some ⟨g0,0,none⟩))] H [bx g0 66 (i7 x0)] (fun v H' Fo=>∃(r0:b7) (r1:Int) (y0:b8),v=(Value.tuple #[(Value.agg (b9 r0).toArray),(vi r1)])∧Fo=[bx g0 66 (i7 y0)]∧K r0 r1 y0 H') noQE
def a0r (x0:i8) (H:Hp) (K:Int→Hp→Prop):Prop:=
 Ct pG 73 [(Value.agg (z6 x0).toArray)] H [] (fun v H' Fo=>∃(r0:Int),v=(vi r0)∧Fo=[]∧K r0 H') noQE
def O0 (x0:ByteArray) (x1:Int) (H:Hp) (K:Int→Int→Bool→Hp→Prop):Prop:=
 Ct pG 108 [(Value.string x0),(vi x1)] H [] (fun v H' Fo=>∃(r0:Int) (r1:Int) (r2:Bool),v=(Value.tuple #[(vi r0),(vi r1),(vB r2)])∧Fo=[]∧K r0 r1 r2 H') noQE
def y3 (x0:Int) (x1:Int) (x2:Int) (H:Hp) (K:Bool→Hp→Prop):Prop:=
 Ct pG 159 [(vi x0),(vi x1),(vi x2)] H [] (fun v H' Fo=>∃(r0:Bool),v=(vB r0)∧Fo=[]∧K r0 H') noQE
def a0e (x0:Int) (H:Hp) (K:Int→Hp→Prop):Prop:=
 Ct pG 142 [(vi x0)] H [] (fun v H' Fo=>∃(r0:Int),v=(vi r0)∧Fo=[]∧K r0 H') noQE
def a0F (x0:ByteArray) (H:Hp) (K:Bool→Hp→Prop):Prop:=
 Ct pG 111 [(Value.string x0)] H [] (fun v H' Fo=>∃(r0:Bool),v=(vB r0)∧Fo=[]∧K r0 H') noQE
def a1X (x0:ByteArray) (H:Hp) (K:Bool→Hp→Prop):Prop:=
 Ct pG 117 [(Value.string x0)] H [] (fun v H' Fo=>∃(r0:Bool),v=(vB r0)∧Fo=[]∧K r0 H') noQE
def a2k (x0:i8) (x1:ByteArray) (x2:Bool) (H:Hp) (K:i8→Hp→Prop):Prop:=
 ∀(g0:Nat),Ct pG 71 [(Value.pointer (some ⟨g0,0,none⟩)),(Value.string x1),(vB x2)] H [bx g0 123 (z6 x0)] (fun v H' Fo=>∃(y0:i8),v=(Value.tuple #[])∧Fo=[bx g0 123 (z6 y0)]∧K y0 H') noQE
def U4 (x0:i8) (x1:d6) (H:Hp) (K:i8→Hp→Prop):Prop:=
 ∀(g0:Nat),Ct pG 85 [(Value.pointer (some ⟨g0,0,none⟩)),(Value.agg (d7 x1).toArray)] H [bx g0 123 (z6 x0)] (fun v H' Fo=>∃(y0:i8),v=(Value.tuple #[])∧Fo=[bx g0 123 (z6 y0)]∧K y0 H') noQE
def a0s (x0:i8) (x1:c8) (H:Hp) (K:i8→Hp→Prop):Prop:=
 ∀(g0:Nat),Ct pG 92 [(Value.pointer (some ⟨g0,0,none⟩)),(Value.agg (f7 x1).toArray)] H [bx g0 123 (z6 x0)] (fun v H' Fo=>∃(y0:i8),v=(Value.tuple #[])∧Fo=[bx g0 123 (z6 y0)]∧K y0 H') noQE
def a0t (x0:m7) (x1:Int) (H:Hp) (K:Bool→m7→Hp→Prop):Prop:=
 ∀(g0:Nat),Ct pG 115 [(Value.pointer (some ⟨g0,0,none⟩)),(vi x1)] H [bx g0 120 (P5 x0)] (fun v H' Fo=>∃(r0:Bool) (y0:m7),v=(vB r0)∧Fo=[bx g0 120 (P5 y0)]∧K r0 y0 H') noQE
def U5 (x0:m7) (x1:d6) (x2:Int) (H:Hp) (K:m7→Hp→Prop):Prop:=
 ∀(g0:Nat),Ct pG 84 [(Value.pointer (some ⟨g0,0,none⟩)),(Value.agg (d7 x1).toArray),(vi x2)] H [bx g0 120 (P5 x0)] (fun v H' Fo=>∃(y0:m7),v=(Value.tuple #[])∧Fo=[bx g0 120 (P5 y0)]∧K y0 H') noQE
def a0u (x0:m7) (x1:c8) (x2:Int) (H:Hp) (K:m7→Hp→Prop):Prop:=
 ∀(g0:Nat),Ct pG 91 [(Value.pointer (some ⟨g0,0,none⟩)),(Value.agg (f7 x1).toArray),(vi x2)] H [bx g0 120 (P5 x0)] (fun v H' Fo=>∃(y0:m7),v=(Value.tuple #[])∧Fo=[bx g0 120 (P5 y0)]∧K y0 H') noQE
def Y6 (x0:b8) (x1:Int) (H:Hp) (K:b7→Int→Hp→Prop):Prop:=
 ∀(g0:Nat),Ct pG 28 [(Value.pointer (some ⟨g0,0,none⟩)),(vi x1)] H [bx g0 66 (i7 x0)] (fun v H' Fo=>∃(r0:b7) (r1:Int),v=(Value.tuple #[(Value.agg (b9 r0).toArray),(vi r1)])∧Fo=[bx g0 66 (i7 x0)]∧K r0 r1 H') noQE
def l8 (x0:b8) (x1:ByteArray) (H:Hp) (K:Bool→Hp→Prop):Prop:=
 ∀(g0:Nat),Ct pG 23 [(Value.pointer (some ⟨g0,0,none⟩)),(Value.string x1)] H [bx g0 66 (i7 x0)] (fun v H' Fo=>∃(r0:Bool),v=(vB r0)∧Fo=[bx g0 66 (i7 x0)]∧K r0 H') noQE
def m6 (x0:b8) (x1:ByteArray) (H:Hp) (K:Bool→b8→Hp→Prop):Prop:=
 ∀(g0:Nat),Ct pG 67 [(Value.pointer (some ⟨g0,0,none⟩)),(Value.string x1)] H [bx g0 66 (i7 x0)] (fun v H' Fo=>∃(r0:Bool) (y0:b8),v=(vB r0)∧Fo=[bx g0 66 (i7 y0)]∧K r0 y0 H') noQE
def B7 (x0:b8) (x1:ByteArray) (H:Hp) (K:b8→Hp→Prop):Prop:=
 ∀(g0:Nat),Ct pG 65 [(Value.pointer (some ⟨g0,0,none⟩)),(Value.string x1)] H [bx g0 66 (i7 x0)] (fun v H' Fo=>∃(y0:b8),v=(Value.tuple #[])∧Fo=[bx g0 66 (i7 y0)]∧K y0 H') noQE
def W4 (x0:b8) (H:Hp) (K:Bool→Hp→Prop):Prop:=
 ∀(g0:Nat),Ct pG 146 [(Value.pointer (some ⟨g0,0,none⟩))] H [bx g0 66 (i7 x0)] (fun v H' Fo=>∃(r0:Bool),v=(vB r0)∧Fo=[bx g0 66 (i7 x0)]∧K r0 H') noQE
def G0 (x0:b8) (x1:Int) (H:Hp) (K:b8→Hp→Prop):Prop:=
 ∀(g0:Nat),Ct pG 114 [(Value.pointer (some ⟨g0,0,none⟩)),(vi x1)] H [bx g0 66 (i7 x0)] (fun v H' Fo=>∃(y0:b8),v=(Value.tuple #[])∧Fo=[bx g0 66 (i7 y0)]∧K y0 H') noQE
def R5 (x0:b8) (x1:Int) (H:Hp) (K:d6→b8→Hp→Prop):Prop:=
 ∀(g0:Nat),Ct pG 123 [(Value.pointer (some ⟨g0,0,none⟩)),(vi x1)] H [bx g0 66 (i7 x0)] (fun v H' Fo=>∃(r0:d6) (y0:b8),v=(Value.agg (d7 r0).toArray)∧Fo=[bx g0 66 (i7 y0)]∧K r0 y0 H') noQE
def Q3 (x0:b8) (H:Hp) (K:Int→Hp→Prop):Prop:=
 ∀(g0:Nat),Ct pG 124 [(Value.pointer (some ⟨g0,0,none⟩))] H [bx g0 66 (i7 x0)] (fun v H' Fo=>∃(r0:Int),v=(vi r0)∧Fo=[bx g0 66 (i7 x0)]∧K r0 H') noQE
def Y7 (x0:b8) (x1:Int) (H:Hp) (K:d6→b8→Hp→Prop):Prop:=
 ∀(g0:Nat),Ct pG 83 [(Value.pointer (some ⟨g0,0,none⟩)),(vi x1)] H [bx g0 66 (i7 x0)] (fun v H' Fo=>∃(r0:d6) (y0:b8),v=(Value.agg (d7 r0).toArray)∧Fo=[bx g0 66 (i7 y0)]∧K r0 y0 H') noQE
def t6 (x0:b8) (x1:Int) (H:Hp) (K:d6→b8→Hp→Prop):Prop:=
 ∀(g0:Nat),Ct pG 37 [(Value.pointer (some ⟨g0,0,none⟩)),(vi x1)] H [bx g0 66 (i7 x0)] (fun v H' Fo=>∃(r0:d6) (y0:b8),v=(Value.agg (d7 r0).toArray)∧Fo=[bx g0 66 (i7 y0)]∧K r0 y0 H') noQE
def G7 (x0:b8) (H:Hp) (K:Int→Hp→Prop):Prop:=
 ∀(g0:Nat),Ct pG 147 [(Value.pointer (some ⟨g0,0,none⟩))] H [bx g0 66 (i7 x0)] (fun v H' Fo=>∃(r0:Int),v=(vi r0)∧Fo=[bx g0 66 (i7 x0)]∧K r0 H') noQE
def D2 (x0:b8) (x1:Int) (H:Hp) (K:c8→b8→Hp→Prop):Prop:=
 ∀(g0:Nat),Ct pG 127 [(Value.pointer (some ⟨g0,0,none⟩)),(vi x1)] H [bx g0 66 (i7 x0)] (fun v H' Fo=>∃(r0:c8) (y0:b8),v=(Value.agg (f7 r0).toArray)∧Fo=[bx g0 66 (i7 y0)]∧K r0 y0 H') noQE
def Y8 (x0:b8) (x1:Int) (H:Hp) (K:c8→b8→Hp→Prop):Prop:=
 ∀(g0:Nat),Ct pG 90 [(Value.pointer (some ⟨g0,0,none⟩)),(vi x1)] H [bx g0 66 (i7 x0)] (fun v H' Fo=>∃(r0:c8) (y0:b8),v=(Value.agg (f7 r0).toArray)∧Fo=[bx g0 66 (i7 y0)]∧K r0 y0 H') noQE
def G1 (x0:b8) (x1:Int) (H:Hp) (K:c8→b8→Hp→Prop):Prop:=
 ∀(g0:Nat),Ct pG 43 [(Value.pointer (some ⟨g0,0,none⟩)),(vi x1)] H [bx g0 66 (i7 x0)] (fun v H' Fo=>∃(r0:c8) (y0:b8),v=(Value.agg (f7 r0).toArray)∧Fo=[bx g0 66 (i7 y0)]∧K r0 y0 H') noQE
def T9 (x0:ByteArray) (x1:Int) (H:Hp) (K:Int→Int→Hp→Prop):Prop:=
 Ct pG 109 [(Value.string x0),(vi x1)] H [] (fun v H' Fo=>∃(r0:Int) (r1:Int),v=(Value.tuple #[(vi r0),(vi r1)])∧Fo=[]∧K r0 r1 H') noQE
def a4j (x0:ByteArray) (x1:Int) (H:Hp) (K:Int→Hp→Prop):Prop:=
 Ct pG 60 [(Value.string x0),(vi x1)] H [] (fun v H' Fo=>∃(r0:Int),v=(vi r0)∧Fo=[]∧K r0 H') noQE
def a1E (x0:ByteArray) (x1:b7) (x2:Int) (x3:Int) (H:Hp) (K:b7→Hp→Prop):Prop:=
 Ct pG 61 [(Value.string x0),(Value.agg (b9 x1).toArray),(vi x2),(vi x3)] H [] (fun v H' Fo=>∃(r0:b7),v=(Value.agg (b9 r0).toArray)∧Fo=[]∧K r0 H') noQE
def a4Z (x0:ByteArray) (x1:Int) (H:Hp) (K:Int→Int→Hp→Prop):Prop:=
 Ct pG 110 [(Value.string x0),(vi x1)] H [] (fun v H' Fo=>∃(r0:Int) (r1:Int),v=(Value.tuple #[(vi r0),(vi r1)])∧Fo=[]∧K r0 r1 H') noQE
def a3u (x0:ByteArray) (x1:Int) (H:Hp) (K:b6→Int→Int→Hp→Prop):Prop:=
 Ct pG 112 [(Value.string x0),(vi x1)] H [] (fun v H' Fo=>∃(r0:b6) (r1:Int) (r2:Int),v=(Value.tuple #[(Value.agg (f9 r0).toArray),(vi r1),(vi r2)])∧Fo=[]∧K r0 r1 r2 H') noQE
def a4k (x0:ByteArray) (x1:Int) (H:Hp) (K:b6→Int→Int→Hp→Prop):Prop:=
 Ct pG 113 [(Value.string x0),(vi x1)] H [] (fun v H' Fo=>∃(r0:b6) (r1:Int) (r2:Int),v=(Value.tuple #[(Value.agg (f9 r0).toArray),(vi r1),(vi r2)])∧Fo=[]∧K r0 r1 r2 H') noQE
def a5a (x0:ByteArray) (x1:Int) (H:Hp) (K:b6→Int→Int→Hp→Prop):Prop:=
 Ct pG 62 [(Value.string x0),(vi x1)] H [] (fun v H' Fo=>∃(r0:b6) (r1:Int) (r2:Int),v=(Value.tuple #[(Value.agg (f9 r0).toArray),(vi r1),(vi r2)])∧Fo=[]∧K r0 r1 r2 H') noQE
def a3V (x0:ByteArray) (H:Hp) (K:Int→Int→Hp→Prop):Prop:=
 Ct pG 58 [(Value.string x0)] H [] (fun v H' Fo=>∃(r0:Int) (r1:Int),v=(Value.tuple #[(vi r0),(vi r1)])∧Fo=[]∧K r0 r1 H') noQE
def a5H (x0:ByteArray) (x1:Int) (H:Hp) (K:b7→Hp→Prop):Prop:=
 Ct pG 59 [(Value.string x0),(vi x1)] H [] (fun v H' Fo=>∃(r0:b7),v=(Value.agg (b9 r0).toArray)∧Fo=[]∧K r0 H') noQE
def a1q (x0:ByteArray) (H:Hp) (K:Sl→b7→Int→Hp→Prop):Prop:=
 Ct pG 22 [(Value.string x0)] H [] (fun v H' Fo=>∃(r0:Sl) (r1:b7) (r2:Int),v=(Value.tuple #[(vs r0),(Value.agg (b9 r1).toArray),(vi r2)])∧Fo=[]∧K r0 r1 r2 H') noQE
def W0 (x0:d6) (x1:d6) (H:Hp) (K:Bool→Hp→Prop):Prop:=
 Ct pG 15 [(Value.agg (d7 x0).toArray),(Value.agg (d7 x1).toArray)] H [] (fun v H' Fo=>∃(r0:Bool),v=(vB r0)∧Fo=[]∧K r0 H') noQE
def P9 (x0:c8) (x1:c8) (H:Hp) (K:Bool→Hp→Prop):Prop:=
 Ct pG 18 [(Value.agg (f7 x0).toArray),(Value.agg (f7 x1).toArray)] H [] (fun v H' Fo=>∃(r0:Bool),v=(vB r0)∧Fo=[]∧K r0 H') noQE
def a8S (x0:p5) (H:Hp) (K:g9→Hp→Prop):Prop:=
 Ct pG 77 [(Value.agg (C1 x0).toArray)] H [] (fun v H' Fo=>∃(r0:g9),v=(L1 r0)∧Fo=[]∧K r0 H') noQE
def M2 (x0:Sl) (H:Hp) (K:Sl→Hp→Prop):Prop:=
 Ct pG 76 [(vs x0),(fC 77)] H [] (fun v H' Fo=>∃(r0:Sl),v=(vs r0)∧Fo=[]∧K r0 H') noQE
def a8T (x0:j9) (H:Hp) (K:g9→Hp→Prop):Prop:=
 Ct pG 79 [(Value.agg (y2 x0).toArray)] H [] (fun v H' Fo=>∃(r0:g9),v=(L1 r0)∧Fo=[]∧K r0 H') noQE
def B8 (x0:Sl) (H:Hp) (K:Sl→Hp→Prop):Prop:=
 Ct pG 78 [(vs x0),(fC 79)] H [] (fun v H' Fo=>∃(r0:Sl),v=(vs r0)∧Fo=[]∧K r0 H') noQE
def W6 (x1:Int) (H:Hp) (K:(List g9)→Hp→Prop):Prop:=
 Ct pG 120 [(nS),(vi x1)] H [] (fun v H' Fo=>∃(r0:(List g9)) (sr0:Sl) (Fr0:Frag),v=(vs sr0)∧Fo=[Fr0]∧RowL 131 1 u0 sr0 r0 Fr0∧K r0 H') noQE
def E5 (x0:Sl) (H:Hp) (K:Sl→Hp→Prop):Prop:=
 Ct pG 75 [(vs x0)] H [] (fun v H' Fo=>∃(r0:Sl),v=(vs r0)∧Fo=[]∧K r0 H') noQE
def a3h (x0:g9) (H:Hp) (K:ByteArray→Bool→Hp→Prop):Prop:=
 Ct pG 143 [(L1 x0)] H [] (fun v H' Fo=>∃(r0:ByteArray) (r1:Bool),v=(Value.tuple #[(Value.string r0),(vB r1)])∧Fo=[]∧K r0 r1 H') noQE
def O2 (x0:Int) (x1:Int) (x2:Int) (H:Hp) (K:Bool→Hp→Prop):Prop:=
 ∀(g2:Nat),Ct pG 151 [(Value.int .i32 x0),(Value.int .i32 x1),(Value.pointer (some ⟨g2,0,none⟩))] H [bx g2 21 [(Value.int .i32 x2)]] (fun v H' Fo=>∃(r0:Bool),v=(vB r0)∧Fo=[bx g2 21 [(Value.int .i32 x2)]]∧K r0 H') noQE
def V0 (x0:Int) (H:Hp) (K:Int→Hp→Prop):Prop:=
 Ct pG 132 [(Value.int .i32 x0)] H [] (fun v H' Fo=>∃(r0:Int),v=(vi r0)∧Fo=[]∧K r0 H') noQE
def a4N (x0:Int) (H:Hp) (K:Bool→Hp→Prop):Prop:=
 Ct pG 154 [(Value.int .i32 x0)] H [] (fun v H' Fo=>∃(r0:Bool),v=(vB r0)∧Fo=[]∧K r0 H') noQE
def a6B (x0:ByteArray) (H:Hp) (K:Bool→Hp→Prop):Prop:=
 Ct pG 160 [(Value.string x0)] H [] (fun v H' Fo=>∃(r0:Bool),v=(vB r0)∧Fo=[]∧K r0 H') noQE
def a1u (x0:ByteArray) (H:Hp) (K:Int→Hp→Prop):Prop:=
 Ct pG 162 [(Value.string x0)] H [] (fun v H' Fo=>∃(r0:Int),v=(vi r0)∧Fo=[]∧K r0 H') noQE
def a3P (x0:ByteArray) (H:Hp) (K:Bool→Hp→Prop):Prop:=
 Ct pG 156 [(Value.string x0)] H [] (fun v H' Fo=>∃(r0:Bool),v=(vB r0)∧Fo=[]∧K r0 H') noQE
def a2i (x0:ByteArray) (H:Hp) (K:Bool→Hp→Prop):Prop:=
 Ct pG 155 [(Value.string x0)] H [] (fun v H' Fo=>∃(r0:Bool),v=(vB r0)∧Fo=[]∧K r0 H') noQE
def a5Q (x0:ByteArray) (H:Hp) (K:Bool→Hp→Prop):Prop:=
 Ct pG 144 [(Value.string x0)] H [] (fun v H' Fo=>∃(r0:Bool),v=(vB r0)∧Fo=[]∧K r0 H') noQE
def a2D (x0:(List ByteArray)) (x1:ByteArray) (H:Hp) (K:Int→Hp→Prop):Prop:=
 ∀(sx0:Sl) (Fx0:Frag),RowL 9 1 M1 sx0 x0 Fx0→Ct pG 161 [(vs sx0),(Value.string x1)] H [Fx0] (fun v H' Fo=>∃(r0:Int),v=(vi r0)∧Fo=[Fx0]∧K r0 H') noQE
def R6 (x0:(List ByteArray)) (x1:ByteArray) (H:Hp) (K:Bool→Hp→Prop):Prop:=
 ∀(sx0:Sl) (Fx0:Frag),RowL 9 1 M1 sx0 x0 Fx0→Ct pG 145 [(vs sx0),(Value.string x1)] H [Fx0] (fun v H' Fo=>∃(r0:Bool),v=(vB r0)∧Fo=[Fx0]∧K r0 H') noQE
def a3v (x0:p1) (f:(List ByteArray)) (x1:g9) (x2:Int) (H:Hp) (K:Bool→p1→(List ByteArray)→Hp→Prop):Prop:=
 ∀(g0:Nat),∀(a:Sl) (b:Frag),RowL 9 1 M1 a f b→Ct pG 119 [(Value.pointer (some ⟨g0,0,none⟩)),(L1 x1),(vi x2)] H [bx g0 79 (a2A x0 a),b] (fun v H' Fo=>∃(r0:Bool) (y0:p1) (c:(List ByteArray)) (d:Sl) (e:Frag),v=(vB r0)∧Fo=[bx g0 79 (a2A y0 d),e]∧RowL 9 1 M1 d c e∧K r0 y0 c H') noQE
def a1k (x0:Sl) (x1:Int) (x2:p1) (f:(List ByteArray)) (H:Hp) (K:Bool→p1→(List ByteArray)→Hp→Prop):Prop:=
 ∀(g2 g2b g3:Nat),∀(a:Sl) (b:Frag),RowL 9 1 M1 a f b→Ct pG 118 [(vs x0),(vi x1),(Value.pointer (some ⟨g2,0,none⟩)),(Value.pointer (some ⟨g3,0,none⟩))] H [bx g2 80 [(Value.pointer (some ⟨g2b,0,none⟩))],bx g2b 79 (a2A x2 a),b,bx g3 169 [(Value.func (.func 118) #[] #[(Value.pointer (some ⟨g2,0,none⟩)),(Value.pointer (some ⟨g3,0,none⟩))])]] (fun v H' Fo=>∃(r0:Bool) (y0:p1) (c:(List ByteArray)) (d:Sl) (e:Frag),v=(vB r0)∧Fo=[bx g2 80 [(Value.pointer (some ⟨g2b,0,none⟩))],bx g2b 79 (a2A y0 d),e,bx g3 169 [(Value.func (.func 118) #[] #[(Value.pointer (some ⟨g2,0,none⟩)),(Value.pointer (some ⟨g3,0,none⟩))])]]∧RowL 9 1 M1 d c e∧K r0 y0 c H') noQE
def a1Y (x0:Sl) (H:Hp) (K:p1→Hp→Prop):Prop:=
 Ct pG 74 [(vs x0)] H [] (fun v H' Fo=>∃(r0:p1) (gr0:Nat),v=(Value.pointer (some ⟨gr0,0,none⟩))∧Fo=[bx gr0 79 (b2s r0)]∧K r0 H') noQE
def a7S (x0:p6) (H:Hp) (K:p1→Hp→Prop):Prop:=
 Ct pG 32 [(Value.agg (u2 x0).toArray)] H [] (fun v H' Fo=>∃(r0:p1) (gr0:Nat),v=(Value.pointer (some ⟨gr0,0,none⟩))∧Fo=[bx gr0 79 (b2s r0)]∧K r0 H') noQE
def a6K (x0:p6) (H:Hp) (K:Int→Hp→Prop):Prop:=
 Ct pG 12 [(Value.agg (u2 x0).toArray)] H [] (fun v H' Fo=>∃(r0:Int),v=(vi r0)∧Fo=[]∧K r0 H') noQE
def L2 (x0:ByteArray) (H:Hp) (K:d6→b7→Int→Hp→Prop):Prop:=
 Ct pG 33 [(Value.string x0),(fC 34),(fC 36)] H [] (fun v H' Fo=>∃(r0:d6) (r1:b7) (r2:Int),v=(Value.tuple #[(Value.agg (d7 r0).toArray),(Value.agg (b9 r1).toArray),(vi r2)])∧Fo=[]∧K r0 r1 r2 H') noQE
def a6L (x0:ByteArray) (H:Hp) (K:d6→b7→Int→Hp→Prop):Prop:=
 Ct pG 13 [(Value.string x0)] H [] (fun v H' Fo=>∃(r0:d6) (r1:b7) (r2:Int),v=(Value.tuple #[(Value.agg (d7 r0).toArray),(Value.agg (b9 r1).toArray),(vi r2)])∧Fo=[]∧K r0 r1 r2 H') noQE
def a4l (x0:d6) (H:Hp) (K:Int→Hp→Prop):Prop:=
 Ct pG 38 [(Value.agg (d7 x0).toArray)] H [] (fun v H' Fo=>∃(r0:Int),v=(vi r0)∧Fo=[]∧K r0 H') noQE
def a4m (x0:ByteArray) (H:Hp) (K:d6→b7→Int→Hp→Prop):Prop:=
 Ct pG 14 [(Value.string x0)] H [] (fun v H' Fo=>∃(r0:d6) (r1:b7) (r2:Int),v=(Value.tuple #[(Value.agg (d7 r0).toArray),(Value.agg (b9 r1).toArray),(vi r2)])∧Fo=[]∧K r0 r1 r2 H') noQE
def L3 (x0:ByteArray) (H:Hp) (K:c8→b7→Int→Hp→Prop):Prop:=
 Ct pG 39 [(Value.string x0),(fC 40),(fC 42)] H [] (fun v H' Fo=>∃(r0:c8) (r1:b7) (r2:Int),v=(Value.tuple #[(Value.agg (f7 r0).toArray),(Value.agg (b9 r1).toArray),(vi r2)])∧Fo=[]∧K r0 r1 r2 H') noQE
def a2v (x0:ByteArray) (H:Hp) (K:c8→b7→Int→Hp→Prop):Prop:=
 Ct pG 16 [(Value.string x0)] H [] (fun v H' Fo=>∃(r0:c8) (r1:b7) (r2:Int),v=(Value.tuple #[(Value.agg (f7 r0).toArray),(Value.agg (b9 r1).toArray),(vi r2)])∧Fo=[]∧K r0 r1 r2 H') noQE
def a4n (x0:c8) (H:Hp) (K:Int→Hp→Prop):Prop:=
 Ct pG 44 [(Value.agg (f7 x0).toArray)] H [] (fun v H' Fo=>∃(r0:Int),v=(vi r0)∧Fo=[]∧K r0 H') noQE
def a0G (x0:ByteArray) (H:Hp) (K:c8→b7→Int→Hp→Prop):Prop:=
 Ct pG 17 [(Value.string x0)] H [] (fun v H' Fo=>∃(r0:c8) (r1:b7) (r2:Int),v=(Value.tuple #[(Value.agg (f7 r0).toArray),(Value.agg (b9 r1).toArray),(vi r2)])∧Fo=[]∧K r0 r1 r2 H') noQE
def a1Z (x0:ByteArray) (H:Hp) (K:Bool→Hp→Prop):Prop:=
 Ct pG 6 [(Value.string x0)] H [] (fun v H' Fo=>∃(r0:Bool),v=(vB r0)∧Fo=[]∧K r0 H') noQE
def z7 (x0:a8) (H:Hp) (K:b6→Hp→Prop):Prop:=
 ∀(g0:Nat),Ct pG 51 [(Value.pointer (some ⟨g0,0,none⟩))] H [bx g0 101 (d9 x0)] (fun v H' Fo=>∃(r0:b6),v=(Value.agg (f9 r0).toArray)∧Fo=[bx g0 101 (d9 x0)]∧K r0 H') noQE
def m5 (x0:a8) (x1:ByteArray) (H:Hp) (K:Bool→Hp→Prop):Prop:=
 ∀(g0:Nat),Ct pG 53 [(Value.pointer (some ⟨g0,0,none⟩)),(Value.string x1)] H [bx g0 101 (d9 x0)] (fun v H' Fo=>∃(r0:Bool),v=(vB r0)∧Fo=[bx g0 101 (d9 x0)]∧K r0 H') noQE
def Q4 (x0:a8) (H:Hp) (K:Bool→Hp→Prop):Prop:=
 ∀(g0:Nat),Ct pG 56 [(Value.pointer (some ⟨g0,0,none⟩))] H [bx g0 101 (d9 x0)] (fun v H' Fo=>∃(r0:Bool),v=(vB r0)∧Fo=[bx g0 101 (d9 x0)]∧K r0 H') noQE
def E9 [PanQ] (x0:a8) (H:Hp) (K:Hp→Prop):Prop:=
 ∀(g0:Nat),Ct pG 52 [(Value.pointer (some ⟨g0,0,none⟩))] H [bx g0 101 (d9 x0)] (fun v H' Fo=>v=(Value.tuple #[])∧Fo=[bx g0 101 (d9 x0)]∧K H') panQE
def D3 [PanQ] (x0:a8) (x1:Int) (x2:Bool) (H:Hp) (K:Hp→Prop):Prop:=
 ∀(g0:Nat),Ct pG 55 [(Value.pointer (some ⟨g0,0,none⟩)),(vi x1),(vB x2)] H [bx g0 101 (d9 x0)] (fun v H' Fo=>v=(Value.tuple #[])∧Fo=[bx g0 101 (d9 x0)]∧K H') panQE
def v6 (x0:a8) (x1:ByteArray) (H:Hp) (K:Bool→a8→Hp→Prop):Prop:=
 ∀(g0:Nat),Ct pG 105 [(Value.pointer (some ⟨g0,0,none⟩)),(Value.string x1)] H [bx g0 101 (d9 x0)] (fun v H' Fo=>∃(r0:Bool) (y0:a8),v=(vB r0)∧Fo=[bx g0 101 (d9 y0)]∧K r0 y0 H') noQE
def C7 [PanQ] (x0:a8) (x1:ByteArray) (H:Hp) (K:a8→Hp→Prop):Prop:=
 ∀(g0:Nat),Ct pG 103 [(Value.pointer (some ⟨g0,0,none⟩)),(Value.string x1)] H [bx g0 101 (d9 x0)] (fun v H' Fo=>∃(y0:a8),v=(Value.tuple #[])∧Fo=[bx g0 101 (d9 y0)]∧K y0 H') panQE
def O5 [PanQ] (x0:a8) (x1:Int) (H:Hp) (K:d6→a8→Hp→Prop):Prop:=
 ∀(g0:Nat),Ct pG 35 [(Value.pointer (some ⟨g0,0,none⟩)),(vi x1)] H [bx g0 101 (d9 x0)] (fun v H' Fo=>∃(r0:d6) (y0:a8),v=(Value.agg (d7 r0).toArray)∧Fo=[bx g0 101 (d9 y0)]∧K r0 y0 H') panQE
def S3 [PanQ] (x0:a8) (H:Hp) (K:b6→a8→Hp→Prop):Prop:=
 ∀(g0:Nat),Ct pG 104 [(Value.pointer (some ⟨g0,0,none⟩))] H [bx g0 101 (d9 x0)] (fun v H' Fo=>∃(r0:b6) (y0:a8),v=(Value.agg (f9 r0).toArray)∧Fo=[bx g0 101 (d9 y0)]∧K r0 y0 H') panQE
def K6 (x0:a8) (H:Hp) (K:Bool→Hp→Prop):Prop:=
 ∀(g0:Nat),Ct pG 141 [(Value.pointer (some ⟨g0,0,none⟩))] H [bx g0 101 (d9 x0)] (fun v H' Fo=>∃(r0:Bool),v=(vB r0)∧Fo=[bx g0 101 (d9 x0)]∧K r0 H') noQE
def W7 [PanQ] (x0:a8) (x1:Int) (x2:ByteArray) (H:Hp) (K:d6→a8→Hp→Prop):Prop:=
 ∀(g0:Nat),Ct pG 106 [(Value.pointer (some ⟨g0,0,none⟩)),(vi x1),(Value.string x2)] H [bx g0 101 (d9 x0)] (fun v H' Fo=>∃(r0:d6) (y0:a8),v=(Value.agg (d7 r0).toArray)∧Fo=[bx g0 101 (d9 y0)]∧K r0 y0 H') panQE
def L4 [PanQ] (x0:a8) (x1:Int) (H:Hp) (K:c8→a8→Hp→Prop):Prop:=
 ∀(g0:Nat),Ct pG 41 [(Value.pointer (some ⟨g0,0,none⟩)),(vi x1)] H [bx g0 101 (d9 x0)] (fun v H' Fo=>∃(r0:c8) (y0:a8),v=(Value.agg (f7 r0).toArray)∧Fo=[bx g0 101 (d9 y0)]∧K r0 y0 H') panQE
def W8 [PanQ] (x0:a8) (x1:Int) (H:Hp) (K:Sl→a8→Hp→Prop):Prop:=
 ∀(g0:Nat),Ct pG 107 [(Value.pointer (some ⟨g0,0,none⟩)),(vi x1)] H [bx g0 101 (d9 x0)] (fun v H' Fo=>∃(r0:Sl) (y0:a8),v=(vs r0)∧Fo=[bx g0 101 (d9 y0)]∧K r0 y0 H') panQE
def Y4 [PanQ] (x0:a8) (x1:Int) (H:Hp) (K:j9→a8→Hp→Prop):Prop:=
 ∀(g0:Nat),Ct pG 57 [(Value.pointer (some ⟨g0,0,none⟩)),(vi x1)] H [bx g0 101 (d9 x0)] (fun v H' Fo=>∃(r0:j9) (y0:a8),v=(Value.agg (y2 r0).toArray)∧Fo=[bx g0 101 (d9 y0)]∧K r0 y0 H') panQE
def a3w [PanQ] (x0:a8) (x1:Int) (H:Hp) (K:b6→a8→Hp→Prop):Prop:=
 ∀(g0:Nat),Ct pG 102 [(Value.pointer (some ⟨g0,0,none⟩)),(vi x1)] H [bx g0 101 (d9 x0)] (fun v H' Fo=>∃(r0:b6) (y0:a8),v=(Value.agg (f9 r0).toArray)∧Fo=[bx g0 101 (d9 y0)]∧K r0 y0 H') panQE
def a1r [PanQ] (x0:a8) (H:Hp) (K:p5→a8→Hp→Prop):Prop:=
 ∀(g0:Nat),Ct pG 54 [(Value.pointer (some ⟨g0,0,none⟩))] H [bx g0 101 (d9 x0)] (fun v H' Fo=>∃(r0:p5) (y0:a8),v=(Value.agg (C1 r0).toArray)∧Fo=[bx g0 101 (d9 y0)]∧K r0 y0 H') panQE
def a3x [PanQ] (x0:a8) (H:Hp) (K:p6→a8→Hp→Prop):Prop:=
 ∀(g0:Nat),Ct pG 21 [(Value.pointer (some ⟨g0,0,none⟩))] H [bx g0 101 (d9 x0)] (fun v H' Fo=>∃(r0:p6) (y0:a8),v=(Value.agg (u2 r0).toArray)∧Fo=[bx g0 101 (d9 y0)]∧K r0 y0 H') panQE
def a8u [PanQ] (x0:a8) (H:Hp) (K:d6→a8→Hp→Prop):Prop:=
 ∀(g0:Nat),Ct pG 34 [(Value.pointer (some ⟨g0,0,none⟩))] H [bx g0 101 (d9 x0)] (fun v H' Fo=>∃(r0:d6) (y0:a8),v=(Value.agg (d7 r0).toArray)∧Fo=[bx g0 101 (d9 y0)]∧K r0 y0 H') panQE
def a7e (x0:d6) (H:Hp) (K:Int→Hp→Prop):Prop:=
 Ct pG 36 [(Value.agg (d7 x0).toArray)] H [] (fun v H' Fo=>∃(r0:Int),v=(vi r0)∧Fo=[]∧K r0 H') noQE
def a8v [PanQ] (x0:a8) (H:Hp) (K:c8→a8→Hp→Prop):Prop:=
 ∀(g0:Nat),Ct pG 40 [(Value.pointer (some ⟨g0,0,none⟩))] H [bx g0 101 (d9 x0)] (fun v H' Fo=>∃(r0:c8) (y0:a8),v=(Value.agg (f7 r0).toArray)∧Fo=[bx g0 101 (d9 y0)]∧K r0 y0 H') panQE
def a7f (x0:c8) (H:Hp) (K:Int→Hp→Prop):Prop:=
 Ct pG 42 [(Value.agg (f7 x0).toArray)] H [] (fun v H' Fo=>∃(r0:Int),v=(vi r0)∧Fo=[]∧K r0 H') noQE
def a4O (x0:ByteArray) (H:Hp) (K:Sl→b7→Int→Hp→Prop):Prop:=
 Ct pG 49 [(Value.string x0)] H [] (fun v H' Fo=>∃(r0:Sl) (r1:b7) (r2:Int),v=(Value.tuple #[(vs r0),(Value.agg (b9 r1).toArray),(vi r2)])∧Fo=[]∧K r0 r1 r2 H') noQE
def a3y [PanQ] (x0:a8) (x1:Int) (H:Hp) (K:d6→a8→Hp→Prop):Prop:=
 ∀(g0:Nat),Ct pG 82 [(Value.pointer (some ⟨g0,0,none⟩)),(vi x1)] H [bx g0 101 (d9 x0)] (fun v H' Fo=>∃(r0:d6) (y0:a8),v=(Value.agg (d7 r0).toArray)∧Fo=[bx g0 101 (d9 y0)]∧K r0 y0 H') panQE
def a2b [PanQ] (x0:a8) (H:Hp) (K:Int→a8→Hp→Prop):Prop:=
 ∀(g0:Nat),Ct pG 126 [(Value.pointer (some ⟨g0,0,none⟩))] H [bx g0 101 (d9 x0)] (fun v H' Fo=>∃(r0:Int) (y0:a8),v=(vi r0)∧Fo=[bx g0 101 (d9 y0)]∧K r0 y0 H') panQE
def R7 (x0:a8) (H:Hp) (K:Bool→Hp→Prop):Prop:=
 ∀(g0:Nat),Ct pG 125 [(Value.pointer (some ⟨g0,0,none⟩))] H [bx g0 101 (d9 x0)] (fun v H' Fo=>∃(r0:Bool),v=(vB r0)∧Fo=[bx g0 101 (d9 x0)]∧K r0 H') noQE
def a0f [PanQ] (x0:a8) (x1:Int) (H:Hp) (K:c8→a8→Hp→Prop):Prop:=
 ∀(g0:Nat),Ct pG 89 [(Value.pointer (some ⟨g0,0,none⟩)),(vi x1)] H [bx g0 101 (d9 x0)] (fun v H' Fo=>∃(r0:c8) (y0:a8),v=(Value.agg (f7 r0).toArray)∧Fo=[bx g0 101 (d9 y0)]∧K r0 y0 H') panQE
def a1l (x0:ByteArray) (H:Hp) (K:Int→Int→Hp→Prop):Prop:=
 Ct pG 128 [(Value.string x0)] H [] (fun v H' Fo=>∃(r0:Int) (r1:Int),v=(Value.tuple #[(Value.int .i32 r0),(vi r1)])∧Fo=[]∧K r0 r1 H') noQE
def a9l (x0:ByteArray) (H:Hp) (K:Int→Int→Hp→Prop):Prop:=
 Ct pG 97 [(Value.string x0)] H [] (fun v H' Fo=>∃(r0:Int) (r1:Int),v=(Value.tuple #[(vi r0),(vi r1)])∧Fo=[]∧K r0 r1 H') noQE
def W1 (x0:g8) (c:(List b6)) (H:Hp) (K:ByteArray→Hp→Prop):Prop:=
 ∀(g0:Nat),∀(a:Sl) (b:Frag),RowL 103 5 f9 a c b→Ct pG 135 [(Value.pointer (some ⟨g0,0,none⟩))] H [bx g0 155 (u6 x0 a),b] (fun v H' Fo=>∃(r0:ByteArray),v=(Value.string r0)∧Fo=[bx g0 155 (u6 x0 a),b]∧K r0 H') noQE
def a4o (x0:ByteArray) (x1:ByteArray) (H:Hp) (K:Bool→Hp→Prop):Prop:=
 Ct pG 153 [(Value.string x0),(Value.string x1)] H [] (fun v H' Fo=>∃(r0:Bool),v=(vB r0)∧Fo=[]∧K r0 H') noQE
def a4P (x0:ByteArray) (x1:ByteArray) (H:Hp) (K:Bool→Hp→Prop):Prop:=
 Ct pG 134 [(Value.string x0),(Value.string x1)] H [] (fun v H' Fo=>∃(r0:Bool),v=(vB r0)∧Fo=[]∧K r0 H') noQE
def a2E (x0:Int) (H:Hp) (K:Bool→Hp→Prop):Prop:=
 Ct pG 136 [(Value.int .i32 x0)] H [] (fun v H' Fo=>∃(r0:Bool),v=(vB r0)∧Fo=[]∧K r0 H') noQE
def B9 (x0:g8) (f:(List b6)) (H:Hp) (K:g8→(List b6)→Hp→Prop):Prop:=
 ∀(g0:Nat),∀(a:Sl) (b:Frag),RowL 103 5 f9 a f b→Ct pG 152 [(Value.pointer (some ⟨g0,0,none⟩))] H [bx g0 155 (u6 x0 a),b] (fun v H' Fo=>∃(y0:g8) (c:(List b6)) (d:Sl) (e:Frag),v=(Value.tuple #[])∧Fo=[bx g0 155 (u6 y0 d),e]∧RowL 103 5 f9 d c e∧K y0 c H') noQE
def A6 (x0:g8) (c:(List b6)) (H:Hp) (K:Int→Bool→Hp→Prop):Prop:=
 ∀(g0:Nat),∀(a:Sl) (b:Frag),RowL 103 5 f9 a c b→Ct pG 100 [(Value.pointer (some ⟨g0,0,none⟩))] H [bx g0 155 (u6 x0 a),b] (fun v H' Fo=>∃(r0:Int) (r1:Bool),v=(Value.tuple #[(Value.int .i32 r0),(vB r1)])∧Fo=[bx g0 155 (u6 x0 a),b]∧K r0 r1 H') noQE
def N5 (x0:g8) (f:(List b6)) (H:Hp) (K:ByteArray→g8→(List b6)→Hp→Prop):Prop:=
 ∀(g0:Nat),∀(a:Sl) (b:Frag),RowL 103 5 f9 a f b→Ct pG 133 [(Value.pointer (some ⟨g0,0,none⟩)),(fC 136)] H [bx g0 155 (u6 x0 a),b] (fun v H' Fo=>∃(r0:ByteArray) (y0:g8) (c:(List b6)) (d:Sl) (e:Frag),v=(Value.string r0)∧Fo=[bx g0 155 (u6 y0 d),e]∧RowL 103 5 f9 d c e∧K r0 y0 c H') noQE
def a2F (x0:Int) (H:Hp) (K:Bool→Hp→Prop):Prop:=
 Ct pG 131 [(Value.int .i32 x0)] H [] (fun v H' Fo=>∃(r0:Bool),v=(vB r0)∧Fo=[]∧K r0 H') noQE
def G3 (x0:g8) (f:(List b6)) (H:Hp) (K:ByteArray→g8→(List b6)→Hp→Prop):Prop:=
 ∀(g0:Nat),∀(a:Sl) (b:Frag),RowL 103 5 f9 a f b→Ct pG 133 [(Value.pointer (some ⟨g0,0,none⟩)),(fC 131)] H [bx g0 155 (u6 x0 a),b] (fun v H' Fo=>∃(r0:ByteArray) (y0:g8) (c:(List b6)) (d:Sl) (e:Frag),v=(Value.string r0)∧Fo=[bx g0 155 (u6 y0 d),e]∧RowL 103 5 f9 d c e∧K r0 y0 c H') noQE
def a1s (x0:g8) (f:(List b6)) (H:Hp) (K:g8→(List b6)→Hp→Prop):Prop:=
 ∀(g0:Nat),∀(a:Sl) (b:Frag),RowL 103 5 f9 a f b→Ct pG 99 [(Value.pointer (some ⟨g0,0,none⟩))] H [bx g0 155 (u6 x0 a),b] (fun v H' Fo=>∃(y0:g8) (c:(List b6)) (d:Sl) (e:Frag),v=(Value.tuple #[])∧Fo=[bx g0 155 (u6 y0 d),e]∧RowL 103 5 f9 d c e∧K y0 c H') noQE
def a3i (x0:a8) (x1:a3g) (H:Hp) (K:Int→a8→Hp→Prop):Prop:=
 ∀(g0:Nat),Ct pG 121 [(Value.pointer (some ⟨g0,0,none⟩)),(Value.agg (Z8 x1).toArray)] H [bx g0 101 (d9 x0)] (fun v H' Fo=>∃(r0:Int) (y0:a8),v=(vi r0)∧Fo=[bx g0 101 (d9 y0)]∧K r0 y0 H') noQE
def S4 [PanQ] (x0:a8) (x1:Int) (H:Hp) (K:d6→a8→Hp→Prop):Prop:=
 ∀(g0:Nat),Ct pG 122 [(Value.pointer (some ⟨g0,0,none⟩)),(vi x1)] H [bx g0 101 (d9 x0)] (fun v H' Fo=>∃(r0:d6) (y0:a8),v=(Value.agg (d7 r0).toArray)∧Fo=[bx g0 101 (d9 y0)]∧K r0 y0 H') panQE
def S0 (x0:g8) (f:(List b6)) (H:Hp) (K:ByteArray→g8→(List b6)→Hp→Prop):Prop:=
 ∀(g0:Nat),∀(a:Sl) (b:Frag),RowL 103 5 f9 a f b→Ct pG 133 [(Value.pointer (some ⟨g0,0,none⟩)),(fC 154)] H [bx g0 155 (u6 x0 a),b] (fun v H' Fo=>∃(r0:ByteArray) (y0:g8) (c:(List b6)) (d:Sl) (e:Frag),v=(Value.string r0)∧Fo=[bx g0 155 (u6 y0 d),e]∧RowL 103 5 f9 d c e∧K r0 y0 c H') noQE
def a7g (x0:g8) (f:(List b6)) (H:Hp) (K:b6→Int→g8→(List b6)→Hp→Prop):Prop:=
 ∀(g0:Nat),∀(a:Sl) (b:Frag),RowL 103 5 f9 a f b→Ct pG 137 [(Value.pointer (some ⟨g0,0,none⟩))] H [bx g0 155 (u6 x0 a),b] (fun v H' Fo=>∃(r0:b6) (r1:Int) (y0:g8) (c:(List b6)) (d:Sl) (e:Frag),v=(Value.tuple #[(Value.agg (f9 r0).toArray),(vi r1)])∧Fo=[bx g0 155 (u6 y0 d),e]∧RowL 103 5 f9 d c e∧K r0 r1 y0 c H') noQE
def a2G (x0:Int) (H:Hp) (K:Bool→Hp→Prop):Prop:=
 Ct pG 157 [(Value.int .i32 x0)] H [] (fun v H' Fo=>∃(r0:Bool),v=(vB r0)∧Fo=[]∧K r0 H') noQE
def N6 (x0:g8) (f:(List b6)) (H:Hp) (K:ByteArray→g8→(List b6)→Hp→Prop):Prop:=
 ∀(g0:Nat),∀(a:Sl) (b:Frag),RowL 103 5 f9 a f b→Ct pG 133 [(Value.pointer (some ⟨g0,0,none⟩)),(fC 157)] H [bx g0 155 (u6 x0 a),b] (fun v H' Fo=>∃(r0:ByteArray) (y0:g8) (c:(List b6)) (d:Sl) (e:Frag),v=(Value.string r0)∧Fo=[bx g0 155 (u6 y0 d),e]∧RowL 103 5 f9 d c e∧K r0 y0 c H') noQE
def b0c (x0:ByteArray) (x1:Int) (x2:Int) (H:Hp) (K:Int→Value→Hp→Prop):Prop:=
 Ct pG 158 [(Value.string x0),(vi x1),(vi x2)] H [] (fun v H' Fo=>∃(r0:Int) (r1:Value),v=(Value.tuple #[(vi r0),r1])∧Fo=[]∧K r0 r1 H') noQE
def a6C (x0:g8) (f:(List b6)) (H:Hp) (K:b6→Int→g8→(List b6)→Hp→Prop):Prop:=
 ∀(g0:Nat),∀(a:Sl) (b:Frag),RowL 103 5 f9 a f b→Ct pG 138 [(Value.pointer (some ⟨g0,0,none⟩))] H [bx g0 155 (u6 x0 a),b] (fun v H' Fo=>∃(r0:b6) (r1:Int) (y0:g8) (c:(List b6)) (d:Sl) (e:Frag),v=(Value.tuple #[(Value.agg (f9 r0).toArray),(vi r1)])∧Fo=[bx g0 155 (u6 y0 d),e]∧RowL 103 5 f9 d c e∧K r0 r1 y0 c H') noQE
def a7h (x0:g8) (f:(List b6)) (H:Hp) (K:b6→Int→g8→(List b6)→Hp→Prop):Prop:=
 ∀(g0:Nat),∀(a:Sl) (b:Frag),RowL 103 5 f9 a f b→Ct pG 139 [(Value.pointer (some ⟨g0,0,none⟩))] H [bx g0 155 (u6 x0 a),b] (fun v H' Fo=>∃(r0:b6) (r1:Int) (y0:g8) (c:(List b6)) (d:Sl) (e:Frag),v=(Value.tuple #[(Value.agg (f9 r0).toArray),(vi r1)])∧Fo=[bx g0 155 (u6 y0 d),e]∧RowL 103 5 f9 d c e∧K r0 r1 y0 c H') noQE
def b0d (H:Hp) (K:b6→Int→Hp→Prop):Prop:=
 Ct pG 140 [] H [] (fun v H' Fo=>∃(r0:b6) (r1:Int),v=(Value.tuple #[(Value.agg (f9 r0).toArray),(vi r1)])∧Fo=[]∧K r0 r1 H') noQE
def a5b (x0:L8) (H:Hp) (K:Bool→Hp→Prop):Prop:=
 Ct pG 205 [(Value.agg (d7 x0.y1).toArray)] H [] (fun v H' Fo=>∃(r0:Bool),v=(vB r0)∧Fo=[]∧K r0 H') noQE
def a8U (x0:d6) (H:Hp) (K:g9→Hp→Prop):Prop:=
 Ct pG 208 [(Value.agg (d7 x0).toArray)] H [] (fun v H' Fo=>∃(r0:g9),v=(L1 r0)∧Fo=[]∧K r0 H') noQE
def C0 (x0:Sl) (H:Hp) (K:Sl→Hp→Prop):Prop:=
 Ct pG 207 [(vs x0),(fC 208)] H [] (fun v H' Fo=>∃(r0:Sl),v=(vs r0)∧Fo=[]∧K r0 H') noQE
def a7i (x0:L8) (H:Hp) (K:Sl→Hp→Prop):Prop:=
 Ct pG 206 [(Value.agg (d7 x0.y1).toArray)] H [] (fun v H' Fo=>∃(r0:Sl),v=(vs r0)∧Fo=[]∧K r0 H') noQE
def a5c (x0:Q5) (H:Hp) (K:Bool→Hp→Prop):Prop:=
 Ct pG 209 [(Value.agg (f7 x0.s8).toArray)] H [] (fun v H' Fo=>∃(r0:Bool),v=(vB r0)∧Fo=[]∧K r0 H') noQE
def a8V (x0:c8) (H:Hp) (K:g9→Hp→Prop):Prop:=
 Ct pG 212 [(Value.agg (f7 x0).toArray)] H [] (fun v H' Fo=>∃(r0:g9),v=(L1 r0)∧Fo=[]∧K r0 H') noQE
def F7 (x0:Sl) (H:Hp) (K:Sl→Hp→Prop):Prop:=
 Ct pG 211 [(vs x0),(fC 212)] H [] (fun v H' Fo=>∃(r0:Sl),v=(vs r0)∧Fo=[]∧K r0 H') noQE
def a7j (x0:Q5) (H:Hp) (K:Sl→Hp→Prop):Prop:=
 Ct pG 210 [(Value.agg (f7 x0.s8).toArray)] H [] (fun v H' Fo=>∃(r0:Sl),v=(vs r0)∧Fo=[]∧K r0 H') noQE
def a7R (x0:a0L) (H:Hp) (K:Bool→Hp→Prop):Prop:=
 Ct pG 213 [(Value.agg (C1 x0.a0Y).toArray)] H [] (fun v H' Fo=>∃(r0:Bool),v=(vB r0)∧Fo=[]∧K r0 H') noQE
def a7k (x0:a0L) (H:Hp) (K:Sl→Hp→Prop):Prop:=
 Ct pG 214 [(Value.agg (C1 x0.a0Y).toArray)] H [] (fun v H' Fo=>∃(r0:Sl),v=(vs r0)∧Fo=[]∧K r0 H') noQE
def a5d (x0:X2) (H:Hp) (K:Bool→Hp→Prop):Prop:=
 Ct pG 215 [(Value.agg (y2 x0.m8).toArray)] H [] (fun v H' Fo=>∃(r0:Bool),v=(vB r0)∧Fo=[]∧K r0 H') noQE
def a7l (x0:X2) (H:Hp) (K:Sl→Hp→Prop):Prop:=
 Ct pG 216 [(Value.agg (y2 x0.m8).toArray)] H [] (fun v H' Fo=>∃(r0:Sl),v=(vs r0)∧Fo=[]∧K r0 H') noQE
def b1h (x0:ByteArray) (x1:Int) (H:Hp) (K:b7→Hp→Prop):Prop:=
 Ct pG 98 [(Value.string x0),(vi x1)] H [] (fun v H' Fo=>∃(r0:b7),v=(Value.agg (b9 r0).toArray)∧Fo=[]∧K r0 H') noQE
def a6l (x:g9) (H:Hp) (K:Bool→Hp→Prop):Prop:=match x with
 | .nil=>False
 | .H7 y=>a5b y H K
 | .N4 y=>a5c y H K
 | .O4 y=>a7R y H K
 | .L6 y=>a5d y H K
def a5S (x:g9) (H:Hp) (K:Sl→Hp→Prop):Prop:=match x with
 | .nil=>False
 | .H7 y=>a7i y H K
 | .N4 y=>a7j y H K
 | .O4 y=>a7k y H K
 | .L6 y=>a7l y H K
theorem b2u {E : Pan} {w0 w : World} {ps : Nat → Prop} {H0 H : Hp} {Fr : List Frag} {K : RT} {Kc : Bool → Hp → Prop} {x : g9} (I : Inv w0 ps H0 H Fr w) (h : a6l x H Kc) (hq : ∀ (r0 : Bool) (H' : Hp) (w' : World), Inv w0 ps H0 H' Fr w' → Hle H H' → (∀ i, i < w.heap.size → ¬ inF [] i → w'.heap[i]? = w.heap[i]?) → Kc r0 H' → K (vB r0) w') : oP E (xInvoke (L1 x) "gnomon/tree.form" []) w K := by
 cases x with
 | nil=>exact h.elim
 | H7 y=>exact a2y (f:=205) (args:=[(Value.agg (d7 y.y1).toArray)].toArray) (by kernel_rfl) (a3m (Fi:=[]) I h (fun v H' Fo w' I' l hk hq'=>by obtain ⟨r0,rfl,rfl,hK⟩:=hq';exact hq r0 H' w' I' l hk hK) (fun _ _ _ _ _ q=>q.elim))
 | N4 y=>exact a2y (f:=209) (args:=[(Value.agg (f7 y.s8).toArray)].toArray) (by kernel_rfl) (a3m (Fi:=[]) I h (fun v H' Fo w' I' l hk hq'=>by obtain ⟨r0,rfl,rfl,hK⟩:=hq';exact hq r0 H' w' I' l hk hK) (fun _ _ _ _ _ q=>q.elim))
 | O4 y=>exact a2y (f:=213) (args:=[(Value.agg (C1 y.a0Y).toArray)].toArray) (by kernel_rfl) (a3m (Fi:=[]) I h (fun v H' Fo w' I' l hk hq'=>by obtain ⟨r0,rfl,rfl,hK⟩:=hq';exact hq r0 H' w' I' l hk hK) (fun _ _ _ _ _ q=>q.elim))
 | L6 y=>exact a2y (f:=215) (args:=[(Value.agg (y2 y.m8).toArray)].toArray) (by kernel_rfl) (a3m (Fi:=[]) I h (fun v H' Fo w' I' l hk hq'=>by obtain ⟨r0,rfl,rfl,hK⟩:=hq';exact hq r0 H' w' I' l hk hK) (fun _ _ _ _ _ q=>q.elim))
theorem b2d {E : Pan} {w0 w : World} {ps : Nat → Prop} {H0 H : Hp} {Fr : List Frag} {K : RT} {Kc : Sl → Hp → Prop} {x : g9} (I : Inv w0 ps H0 H Fr w) (h : a5S x H Kc) (hq : ∀ (r0 : Sl) (H' : Hp) (w' : World), Inv w0 ps H0 H' Fr w' → Hle H H' → (∀ i, i < w.heap.size → ¬ inF [] i → w'.heap[i]? = w.heap[i]?) → Kc r0 H' → K (vs r0) w') : oP E (xInvoke (L1 x) "gnomon/tree.parts" []) w K := by
 cases x with
 | nil=>exact h.elim
 | H7 y=>exact a2y (f:=206) (args:=[(Value.agg (d7 y.y1).toArray)].toArray) (by kernel_rfl) (a3m (Fi:=[]) I h (fun v H' Fo w' I' l hk hq'=>by obtain ⟨r0,rfl,rfl,hK⟩:=hq';exact hq r0 H' w' I' l hk hK) (fun _ _ _ _ _ q=>q.elim))
 | N4 y=>exact a2y (f:=210) (args:=[(Value.agg (f7 y.s8).toArray)].toArray) (by kernel_rfl) (a3m (Fi:=[]) I h (fun v H' Fo w' I' l hk hq'=>by obtain ⟨r0,rfl,rfl,hK⟩:=hq';exact hq r0 H' w' I' l hk hK) (fun _ _ _ _ _ q=>q.elim))
 | O4 y=>exact a2y (f:=214) (args:=[(Value.agg (C1 y.a0Y).toArray)].toArray) (by kernel_rfl) (a3m (Fi:=[]) I h (fun v H' Fo w' I' l hk hq'=>by obtain ⟨r0,rfl,rfl,hK⟩:=hq';exact hq r0 H' w' I' l hk hK) (fun _ _ _ _ _ q=>q.elim))
 | L6 y=>exact a2y (f:=216) (args:=[(Value.agg (y2 y.m8).toArray)].toArray) (by kernel_rfl) (a3m (Fi:=[]) I h (fun v H' Fo w' I' l hk hq'=>by obtain ⟨r0,rfl,rfl,hK⟩:=hq';exact hq r0 H' w' I' l hk hK) (fun _ _ _ _ _ q=>q.elim))
end Go.Proofs.YthklmeihgmcljaaGreatDoor
