/- Contracts of the program's functions; printed by lift.py off the code. -/
import Derived.Test.YthklmeihgmcljaaGreatDoorzNU1
import Derived.Test.YthklmeihgmcljaaGreatDoorzNG1a
import Derived.Test.YthklmeihgmcljaaGreatDoorzNG1b
import Derived.Test.YthklmeihgmcljaaGreatDoorzNG1c
namespace Go.Proofs.YthklmeihgmcljaaGreatDoor
open Go.RowKit
set_option maxRecDepth 100000
set_option maxHeartbeats 2000000
def E2 (x0 : ByteArray) (H : Hp) (K : l9 → c8 → Int → Hp → Prop) : Prop :=
 Ct pG 20 [(Value.string x0), (fC 21), (fC 12)] H [] (fun v H' Fo => ∃ (r0 : l9) (r1 : c8) (r2 : Int), v = (Value.tuple #[(Value.agg (p9 r0).toArray), (Value.agg (j9 r1).toArray), (vi r2)]) ∧ Fo = [] ∧ K r0 r1 r2 H') noQE
def Y3 (x0 : ByteArray) (H : Hp) (K : l9 → c8 → Int → Hp → Prop) : Prop :=
 Ct pG 9 [(Value.string x0)] H [] (fun v H' Fo => ∃ (r0 : l9) (r1 : c8) (r2 : Int), v = (Value.tuple #[(Value.agg (p9 r0).toArray), (Value.agg (j9 r1).toArray), (vi r2)]) ∧ Fo = [] ∧ K r0 r1 r2 H') noQE
def a1f (H : Hp) (K : Bool → Hp → Prop) : Prop :=
 Ct pG 8 [] H [] (fun v H' Fo => ∃ (r0 : Bool), v = (vB r0) ∧ Fo = [] ∧ K r0 H') noQE
def X0 (x0 : b8) (H : Hp) (K : b7 → Hp → Prop) : Prop :=
 ∀ (g0 : Nat), Ct pG 63 [(Value.pointer (some ⟨g0, 0, none⟩))] H [bx g0 66 (l0 x0)] (fun v H' Fo => ∃ (r0 : b7), v = (Value.agg (d9 r0).toArray) ∧ Fo = [bx g0 66 (l0 x0)] ∧ K r0 H') noQE
def u1 (x0 : b8) (x1 : ByteArray) (H : Hp) (K : Bool → Hp → Prop) : Prop :=
 ∀ (g0 : Nat), Ct pG 23 [(Value.pointer (some ⟨g0, 0, none⟩)), (Value.string x1)] H [bx g0 66 (l0 x0)] (fun v H' Fo => ∃ (r0 : Bool), v = (vB r0) ∧ Fo = [bx g0 66 (l0 x0)] ∧ K r0 H') noQE
def N7 (x0 : b8) (x1 : ByteArray) (H : Hp) (K : Bool → b8 → Hp → Prop) : Prop :=
 ∀ (g0 : Nat), Ct pG 67 [(Value.pointer (some ⟨g0, 0, none⟩)), (Value.string x1)] H [bx g0 66 (l0 x0)] (fun v H' Fo => ∃ (r0 : Bool) (y0 : b8), v = (vB r0) ∧ Fo = [bx g0 66 (l0 y0)] ∧ K r0 y0 H') noQE
def X1 (x0 : b8) (x1 : Int) (H : Hp) (K : d7 → b8 → Hp → Prop) : Prop :=
 ∀ (g0 : Nat), Ct pG 123 [(Value.pointer (some ⟨g0, 0, none⟩)), (vi x1)] H [bx g0 66 (l0 x0)] (fun v H' Fo => ∃ (r0 : d7) (y0 : b8), v = (Value.agg (f9 r0).toArray) ∧ Fo = [bx g0 66 (l0 y0)] ∧ K r0 y0 H') noQE
def L6 (x0 : b8) (H : Hp) (K : Int → Hp → Prop) : Prop :=
 ∀ (g0 : Nat), Ct pG 124 [(Value.pointer (some ⟨g0, 0, none⟩))] H [bx g0 66 (l0 x0)] (fun v H' Fo => ∃ (r0 : Int), v = (vi r0) ∧ Fo = [bx g0 66 (l0 x0)] ∧ K r0 H') noQE
def S1 (x0 : b8) (x1 : Int) (H : Hp) (K : d7 → b8 → Hp → Prop) : Prop :=
 ∀ (g0 : Nat), Ct pG 83 [(Value.pointer (some ⟨g0, 0, none⟩)), (vi x1)] H [bx g0 66 (l0 x0)] (fun v H' Fo => ∃ (r0 : d7) (y0 : b8), v = (Value.agg (f9 r0).toArray) ∧ Fo = [bx g0 66 (l0 y0)] ∧ K r0 y0 H') noQE
def a1L (x0 : b8) (x1 : Int) (H : Hp) (K : d7 → b8 → Hp → Prop) : Prop :=
 ∀ (g0 : Nat), Ct pG 37 [(Value.pointer (some ⟨g0, 0, none⟩)), (vi x1)] H [bx g0 66 (l0 x0)] (fun v H' Fo => ∃ (r0 : d7) (y0 : b8), v = (Value.agg (f9 r0).toArray) ∧ Fo = [bx g0 66 (l0 y0)] ∧ K r0 y0 H') noQE
def Y4 (x0 : b8) (x1 : Int) (H : Hp) (K : f7 → b8 → Hp → Prop) : Prop :=
 ∀ (g0 : Nat), Ct pG 127 [(Value.pointer (some ⟨g0, 0, none⟩)), (vi x1)] H [bx g0 66 (l0 x0)] (fun v H' Fo => ∃ (r0 : f7) (y0 : b8), v = (Value.agg (i6 r0).toArray) ∧ Fo = [bx g0 66 (l0 y0)] ∧ K r0 y0 H') noQE
def S2 (x0 : b8) (x1 : Int) (H : Hp) (K : f7 → b8 → Hp → Prop) : Prop :=
 ∀ (g0 : Nat), Ct pG 90 [(Value.pointer (some ⟨g0, 0, none⟩)), (vi x1)] H [bx g0 66 (l0 x0)] (fun v H' Fo => ∃ (r0 : f7) (y0 : b8), v = (Value.agg (i6 r0).toArray) ∧ Fo = [bx g0 66 (l0 y0)] ∧ K r0 y0 H') noQE
def a1M (x0 : b8) (x1 : Int) (H : Hp) (K : f7 → b8 → Hp → Prop) : Prop :=
 ∀ (g0 : Nat), Ct pG 43 [(Value.pointer (some ⟨g0, 0, none⟩)), (vi x1)] H [bx g0 66 (l0 x0)] (fun v H' Fo => ∃ (r0 : f7) (y0 : b8), v = (Value.agg (i6 r0).toArray) ∧ Fo = [bx g0 66 (l0 y0)] ∧ K r0 y0 H') noQE
def a5a (x0 : l8) (H : Hp) (K : d8 → Hp → Prop) : Prop :=
 Ct pG 77 [(Value.agg (A0 x0).toArray)] H [] (fun v H' Fo => ∃ (r0 : d8), v = (E5 r0) ∧ Fo = [] ∧ K r0 H') noQE
def G1 (x0 : Sl) (H : Hp) (K : Sl → Hp → Prop) : Prop :=
 Ct pG 76 [(vs x0), (fC 77)] H [] (fun v H' Fo => ∃ (r0 : Sl), v = (vs r0) ∧ Fo = [] ∧ K r0 H') noQE
def a5b (x0 : g5) (H : Hp) (K : d8 → Hp → Prop) : Prop :=
 Ct pG 79 [(Value.agg (t7 x0).toArray)] H [] (fun v H' Fo => ∃ (r0 : d8), v = (E5 r0) ∧ Fo = [] ∧ K r0 H') noQE
def y9 (x0 : Sl) (H : Hp) (K : Sl → Hp → Prop) : Prop :=
 Ct pG 78 [(vs x0), (fC 79)] H [] (fun v H' Fo => ∃ (r0 : Sl), v = (vs r0) ∧ Fo = [] ∧ K r0 H') noQE
def Q8 (x1 : Int) (H : Hp) (K : (List d8) → Hp → Prop) : Prop :=
 Ct pG 120 [(nS), (vi x1)] H [] (fun v H' Fo => ∃ (r0 : (List d8)) (sr0 : Sl) (Fr0 : Frag), v = (vs sr0) ∧ Fo = [Fr0] ∧ RowL 131 1 u0 sr0 r0 Fr0 ∧ K r0 H') noQE
def C3 (x0 : Sl) (H : Hp) (K : Sl → Hp → Prop) : Prop :=
 Ct pG 75 [(vs x0)] H [] (fun v H' Fo => ∃ (r0 : Sl), v = (vs r0) ∧ Fo = [] ∧ K r0 H') noQE
def a0B (x0 : d8) (H : Hp) (K : ByteArray → Bool → Hp → Prop) : Prop :=
 Ct pG 143 [(E5 x0)] H [] (fun v H' Fo => ∃ (r0 : ByteArray) (r1 : Bool), v = (Value.tuple #[(Value.string r0), (vB r1)]) ∧ Fo = [] ∧ K r0 r1 H') noQE
def J5 (x0 : Int) (x1 : Int) (x2 : Int) (H : Hp) (K : Bool → Hp → Prop) : Prop :=
 ∀ (g2 : Nat), Ct pG 151 [(Value.int .i32 x0), (Value.int .i32 x1), (Value.pointer (some ⟨g2, 0, none⟩))] H [bx g2 21 [(Value.int .i32 x2)]] (fun v H' Fo => ∃ (r0 : Bool), v = (vB r0) ∧ Fo = [bx g2 21 [(Value.int .i32 x2)]] ∧ K r0 H') noQE
def O9 (x0 : Int) (H : Hp) (K : Int → Hp → Prop) : Prop :=
 Ct pG 132 [(Value.int .i32 x0)] H [] (fun v H' Fo => ∃ (r0 : Int), v = (vi r0) ∧ Fo = [] ∧ K r0 H') noQE
def a1G (x0 : Int) (H : Hp) (K : Bool → Hp → Prop) : Prop :=
 Ct pG 154 [(Value.int .i32 x0)] H [] (fun v H' Fo => ∃ (r0 : Bool), v = (vB r0) ∧ Fo = [] ∧ K r0 H') noQE
def a3d (x0 : ByteArray) (H : Hp) (K : Bool → Hp → Prop) : Prop :=
 Ct pG 160 [(Value.string x0)] H [] (fun v H' Fo => ∃ (r0 : Bool), v = (vB r0) ∧ Fo = [] ∧ K r0 H') noQE
def W3 (x0 : ByteArray) (H : Hp) (K : Int → Hp → Prop) : Prop :=
 Ct pG 162 [(Value.string x0)] H [] (fun v H' Fo => ∃ (r0 : Int), v = (vi r0) ∧ Fo = [] ∧ K r0 H') noQE
def a1b (x0 : ByteArray) (H : Hp) (K : Bool → Hp → Prop) : Prop :=
 Ct pG 156 [(Value.string x0)] H [] (fun v H' Fo => ∃ (r0 : Bool), v = (vB r0) ∧ Fo = [] ∧ K r0 H') noQE
def Y9 (x0 : ByteArray) (H : Hp) (K : Bool → Hp → Prop) : Prop :=
 Ct pG 155 [(Value.string x0)] H [] (fun v H' Fo => ∃ (r0 : Bool), v = (vB r0) ∧ Fo = [] ∧ K r0 H') noQE
def a2z (x0 : ByteArray) (H : Hp) (K : Bool → Hp → Prop) : Prop :=
 Ct pG 144 [(Value.string x0)] H [] (fun v H' Fo => ∃ (r0 : Bool), v = (vB r0) ∧ Fo = [] ∧ K r0 H') noQE
def Z8 (x0 : (List ByteArray)) (x1 : ByteArray) (H : Hp) (K : Int → Hp → Prop) : Prop :=
 ∀ (sx0 : Sl) (Fx0 : Frag), RowL 9 1 G0 sx0 x0 Fx0 → Ct pG 161 [(vs sx0), (Value.string x1)] H [Fx0] (fun v H' Fo => ∃ (r0 : Int), v = (vi r0) ∧ Fo = [Fx0] ∧ K r0 H') noQE
def M0 (x0 : (List ByteArray)) (x1 : ByteArray) (H : Hp) (K : Bool → Hp → Prop) : Prop :=
 ∀ (sx0 : Sl) (Fx0 : Frag), RowL 9 1 G0 sx0 x0 Fx0 → Ct pG 145 [(vs sx0), (Value.string x1)] H [Fx0] (fun v H' Fo => ∃ (r0 : Bool), v = (vB r0) ∧ Fo = [Fx0] ∧ K r0 H') noQE
def a0K (x0 : l7) (f : (List ByteArray)) (x1 : d8) (x2 : Int) (H : Hp) (K : Bool → l7 → (List ByteArray) → Hp → Prop) : Prop :=
 ∀ (g0 : Nat), ∀ (a : Sl) (b : Frag), RowL 9 1 G0 a f b → Ct pG 119 [(Value.pointer (some ⟨g0, 0, none⟩)), (E5 x1), (vi x2)] H [bx g0 79 (Z7 x0 a), b] (fun v H' Fo => ∃ (r0 : Bool) (y0 : l7) (c : (List ByteArray)) (d : Sl) (e : Frag), v = (vB r0) ∧ Fo = [bx g0 79 (Z7 y0 d), e] ∧ RowL 9 1 G0 d c e ∧ K r0 y0 c H') noQE
def V8 (x0 : Sl) (x1 : Int) (x2 : l7) (f : (List ByteArray)) (H : Hp) (K : Bool → l7 → (List ByteArray) → Hp → Prop) : Prop :=
 ∀ (g2 g2b g3 : Nat), ∀ (a : Sl) (b : Frag), RowL 9 1 G0 a f b → Ct pG 118 [(vs x0), (vi x1), (Value.pointer (some ⟨g2, 0, none⟩)), (Value.pointer (some ⟨g3, 0, none⟩))] H [bx g2 80 [(Value.pointer (some ⟨g2b, 0, none⟩))], bx g2b 79 (Z7 x2 a), b, bx g3 169 [(Value.func (.func 118) #[] #[(Value.pointer (some ⟨g2, 0, none⟩)), (Value.pointer (some ⟨g3, 0, none⟩))])]] (fun v H' Fo => ∃ (r0 : Bool) (y0 : l7) (c : (List ByteArray)) (d : Sl) (e : Frag), v = (vB r0) ∧ Fo = [bx g2 80 [(Value.pointer (some ⟨g2b, 0, none⟩))], bx g2b 79 (Z7 y0 d), e, bx g3 169 [(Value.func (.func 118) #[] #[(Value.pointer (some ⟨g2, 0, none⟩)), (Value.pointer (some ⟨g3, 0, none⟩))])]] ∧ RowL 9 1 G0 d c e ∧ K r0 y0 c H') noQE
def a2N (x0 : Sl) (H : Hp) (K : l7 → Hp → Prop) : Prop :=
 Ct pG 74 [(vs x0)] H [] (fun v H' Fo => ∃ (r0 : l7) (gr0 : Nat), v = (Value.pointer (some ⟨gr0, 0, none⟩)) ∧ Fo = [bx gr0 79 (a7F r0)] ∧ K r0 H') noQE
def a4g (x0 : l9) (H : Hp) (K : l7 → Hp → Prop) : Prop :=
 Ct pG 32 [(Value.agg (p9 x0).toArray)] H [] (fun v H' Fo => ∃ (r0 : l7) (gr0 : Nat), v = (Value.pointer (some ⟨gr0, 0, none⟩)) ∧ Fo = [bx gr0 79 (a7F r0)] ∧ K r0 H') noQE
def a1H (x0 : l9) (H : Hp) (K : Int → Hp → Prop) : Prop :=
 Ct pG 12 [(Value.agg (p9 x0).toArray)] H [] (fun v H' Fo => ∃ (r0 : Int), v = (vi r0) ∧ Fo = [] ∧ K r0 H') noQE
def X2 (x0 : Int) (x1 : Int) (H : Hp) (K : Bool → Hp → Prop) : Prop :=
 Ct pG 4 [(vi x0), (vi x1)] H [] (fun v H' Fo => ∃ (r0 : Bool), v = (vB r0) ∧ Fo = [] ∧ K r0 H') noQE
def y8 (x0 : b6) (H : Hp) (K : b7 → Hp → Prop) : Prop :=
 ∀ (g0 : Nat), Ct pG 51 [(Value.pointer (some ⟨g0, 0, none⟩))] H [bx g0 101 (b9 x0)] (fun v H' Fo => ∃ (r0 : b7), v = (Value.agg (d9 r0).toArray) ∧ Fo = [bx g0 101 (b9 x0)] ∧ K r0 H') noQE
def i7 (x0 : b6) (x1 : ByteArray) (H : Hp) (K : Bool → Hp → Prop) : Prop :=
 ∀ (g0 : Nat), Ct pG 53 [(Value.pointer (some ⟨g0, 0, none⟩)), (Value.string x1)] H [bx g0 101 (b9 x0)] (fun v H' Fo => ∃ (r0 : Bool), v = (vB r0) ∧ Fo = [bx g0 101 (b9 x0)] ∧ K r0 H') noQE
def L8 (x0 : b6) (H : Hp) (K : Bool → Hp → Prop) : Prop :=
 ∀ (g0 : Nat), Ct pG 56 [(Value.pointer (some ⟨g0, 0, none⟩))] H [bx g0 101 (b9 x0)] (fun v H' Fo => ∃ (r0 : Bool), v = (vB r0) ∧ Fo = [bx g0 101 (b9 x0)] ∧ K r0 H') noQE
def C6 [PanQ] (x0 : b6) (H : Hp) (K : Hp → Prop) : Prop :=
 ∀ (g0 : Nat), Ct pG 52 [(Value.pointer (some ⟨g0, 0, none⟩))] H [bx g0 101 (b9 x0)] (fun v H' Fo => v = (Value.tuple #[]) ∧ Fo = [bx g0 101 (b9 x0)] ∧ K H') panQE
def B1 [PanQ] (x0 : b6) (x1 : Int) (x2 : Bool) (H : Hp) (K : Hp → Prop) : Prop :=
 ∀ (g0 : Nat), Ct pG 55 [(Value.pointer (some ⟨g0, 0, none⟩)), (vi x1), (vB x2)] H [bx g0 101 (b9 x0)] (fun v H' Fo => v = (Value.tuple #[]) ∧ Fo = [bx g0 101 (b9 x0)] ∧ K H') panQE
def s7 (x0 : b6) (x1 : ByteArray) (H : Hp) (K : Bool → b6 → Hp → Prop) : Prop :=
 ∀ (g0 : Nat), Ct pG 105 [(Value.pointer (some ⟨g0, 0, none⟩)), (Value.string x1)] H [bx g0 101 (b9 x0)] (fun v H' Fo => ∃ (r0 : Bool) (y0 : b6), v = (vB r0) ∧ Fo = [bx g0 101 (b9 y0)] ∧ K r0 y0 H') noQE
def A7 [PanQ] (x0 : b6) (x1 : ByteArray) (H : Hp) (K : b6 → Hp → Prop) : Prop :=
 ∀ (g0 : Nat), Ct pG 103 [(Value.pointer (some ⟨g0, 0, none⟩)), (Value.string x1)] H [bx g0 101 (b9 x0)] (fun v H' Fo => ∃ (y0 : b6), v = (Value.tuple #[]) ∧ Fo = [bx g0 101 (b9 y0)] ∧ K y0 H') panQE
def M7 [PanQ] (x0 : b6) (x1 : Int) (H : Hp) (K : d7 → b6 → Hp → Prop) : Prop :=
 ∀ (g0 : Nat), Ct pG 35 [(Value.pointer (some ⟨g0, 0, none⟩)), (vi x1)] H [bx g0 101 (b9 x0)] (fun v H' Fo => ∃ (r0 : d7) (y0 : b6), v = (Value.agg (f9 r0).toArray) ∧ Fo = [bx g0 101 (b9 y0)] ∧ K r0 y0 H') panQE
def M8 [PanQ] (x0 : b6) (H : Hp) (K : b7 → b6 → Hp → Prop) : Prop :=
 ∀ (g0 : Nat), Ct pG 104 [(Value.pointer (some ⟨g0, 0, none⟩))] H [bx g0 101 (b9 x0)] (fun v H' Fo => ∃ (r0 : b7) (y0 : b6), v = (Value.agg (d9 r0).toArray) ∧ Fo = [bx g0 101 (b9 y0)] ∧ K r0 y0 H') panQE
def E1 (x0 : b6) (H : Hp) (K : Bool → Hp → Prop) : Prop :=
 ∀ (g0 : Nat), Ct pG 141 [(Value.pointer (some ⟨g0, 0, none⟩))] H [bx g0 101 (b9 x0)] (fun v H' Fo => ∃ (r0 : Bool), v = (vB r0) ∧ Fo = [bx g0 101 (b9 x0)] ∧ K r0 H') noQE
def Q9 [PanQ] (x0 : b6) (x1 : Int) (x2 : ByteArray) (H : Hp) (K : d7 → b6 → Hp → Prop) : Prop :=
 ∀ (g0 : Nat), Ct pG 106 [(Value.pointer (some ⟨g0, 0, none⟩)), (vi x1), (Value.string x2)] H [bx g0 101 (b9 x0)] (fun v H' Fo => ∃ (r0 : d7) (y0 : b6), v = (Value.agg (f9 r0).toArray) ∧ Fo = [bx g0 101 (b9 y0)] ∧ K r0 y0 H') panQE
def K2 [PanQ] (x0 : b6) (x1 : Int) (H : Hp) (K : f7 → b6 → Hp → Prop) : Prop :=
 ∀ (g0 : Nat), Ct pG 41 [(Value.pointer (some ⟨g0, 0, none⟩)), (vi x1)] H [bx g0 101 (b9 x0)] (fun v H' Fo => ∃ (r0 : f7) (y0 : b6), v = (Value.agg (i6 r0).toArray) ∧ Fo = [bx g0 101 (b9 y0)] ∧ K r0 y0 H') panQE
def R0 [PanQ] (x0 : b6) (x1 : Int) (H : Hp) (K : Sl → b6 → Hp → Prop) : Prop :=
 ∀ (g0 : Nat), Ct pG 107 [(Value.pointer (some ⟨g0, 0, none⟩)), (vi x1)] H [bx g0 101 (b9 x0)] (fun v H' Fo => ∃ (r0 : Sl) (y0 : b6), v = (vs r0) ∧ Fo = [bx g0 101 (b9 y0)] ∧ K r0 y0 H') panQE
def R9 [PanQ] (x0 : b6) (x1 : Int) (H : Hp) (K : g5 → b6 → Hp → Prop) : Prop :=
 ∀ (g0 : Nat), Ct pG 57 [(Value.pointer (some ⟨g0, 0, none⟩)), (vi x1)] H [bx g0 101 (b9 x0)] (fun v H' Fo => ∃ (r0 : g5) (y0 : b6), v = (Value.agg (t7 r0).toArray) ∧ Fo = [bx g0 101 (b9 y0)] ∧ K r0 y0 H') panQE
def a0L [PanQ] (x0 : b6) (x1 : Int) (H : Hp) (K : b7 → b6 → Hp → Prop) : Prop :=
 ∀ (g0 : Nat), Ct pG 102 [(Value.pointer (some ⟨g0, 0, none⟩)), (vi x1)] H [bx g0 101 (b9 x0)] (fun v H' Fo => ∃ (r0 : b7) (y0 : b6), v = (Value.agg (d9 r0).toArray) ∧ Fo = [bx g0 101 (b9 y0)] ∧ K r0 y0 H') panQE
def W1 [PanQ] (x0 : b6) (H : Hp) (K : l8 → b6 → Hp → Prop) : Prop :=
 ∀ (g0 : Nat), Ct pG 54 [(Value.pointer (some ⟨g0, 0, none⟩))] H [bx g0 101 (b9 x0)] (fun v H' Fo => ∃ (r0 : l8) (y0 : b6), v = (Value.agg (A0 r0).toArray) ∧ Fo = [bx g0 101 (b9 y0)] ∧ K r0 y0 H') panQE
def a0M [PanQ] (x0 : b6) (H : Hp) (K : l9 → b6 → Hp → Prop) : Prop :=
 ∀ (g0 : Nat), Ct pG 21 [(Value.pointer (some ⟨g0, 0, none⟩))] H [bx g0 101 (b9 x0)] (fun v H' Fo => ∃ (r0 : l9) (y0 : b6), v = (Value.agg (p9 r0).toArray) ∧ Fo = [bx g0 101 (b9 y0)] ∧ K r0 y0 H') panQE
def a5n (x0 : ByteArray) (H : Hp) (K : Sl → c8 → Int → Hp → Prop) : Prop :=
 Ct pG 49 [(Value.string x0)] H [] (fun v H' Fo => ∃ (r0 : Sl) (r1 : c8) (r2 : Int), v = (Value.tuple #[(vs r0), (Value.agg (j9 r1).toArray), (vi r2)]) ∧ Fo = [] ∧ K r0 r1 r2 H') noQE
def a0N [PanQ] (x0 : b6) (x1 : Int) (H : Hp) (K : d7 → b6 → Hp → Prop) : Prop :=
 ∀ (g0 : Nat), Ct pG 82 [(Value.pointer (some ⟨g0, 0, none⟩)), (vi x1)] H [bx g0 101 (b9 x0)] (fun v H' Fo => ∃ (r0 : d7) (y0 : b6), v = (Value.agg (f9 r0).toArray) ∧ Fo = [bx g0 101 (b9 y0)] ∧ K r0 y0 H') panQE
def Y5 [PanQ] (x0 : b6) (H : Hp) (K : Int → b6 → Hp → Prop) : Prop :=
 ∀ (g0 : Nat), Ct pG 126 [(Value.pointer (some ⟨g0, 0, none⟩))] H [bx g0 101 (b9 x0)] (fun v H' Fo => ∃ (r0 : Int) (y0 : b6), v = (vi r0) ∧ Fo = [bx g0 101 (b9 y0)] ∧ K r0 y0 H') panQE
def M1 (x0 : b6) (H : Hp) (K : Bool → Hp → Prop) : Prop :=
 ∀ (g0 : Nat), Ct pG 125 [(Value.pointer (some ⟨g0, 0, none⟩))] H [bx g0 101 (b9 x0)] (fun v H' Fo => ∃ (r0 : Bool), v = (vB r0) ∧ Fo = [bx g0 101 (b9 x0)] ∧ K r0 H') noQE
def S7 [PanQ] (x0 : b6) (x1 : Int) (H : Hp) (K : f7 → b6 → Hp → Prop) : Prop :=
 ∀ (g0 : Nat), Ct pG 89 [(Value.pointer (some ⟨g0, 0, none⟩)), (vi x1)] H [bx g0 101 (b9 x0)] (fun v H' Fo => ∃ (r0 : f7) (y0 : b6), v = (Value.agg (i6 r0).toArray) ∧ Fo = [bx g0 101 (b9 y0)] ∧ K r0 y0 H') panQE
def V9 (x0 : ByteArray) (H : Hp) (K : Int → Int → Hp → Prop) : Prop :=
 Ct pG 128 [(Value.string x0)] H [] (fun v H' Fo => ∃ (r0 : Int) (r1 : Int), v = (Value.tuple #[(Value.int .i32 r0), (vi r1)]) ∧ Fo = [] ∧ K r0 r1 H') noQE
def a5o (x0 : ByteArray) (H : Hp) (K : Int → Int → Hp → Prop) : Prop :=
 Ct pG 97 [(Value.string x0)] H [] (fun v H' Fo => ∃ (r0 : Int) (r1 : Int), v = (Value.tuple #[(vi r0), (vi r1)]) ∧ Fo = [] ∧ K r0 r1 H') noQE
def Q1 (x0 : d6) (c : (List b7)) (H : Hp) (K : ByteArray → Hp → Prop) : Prop :=
 ∀ (g0 : Nat), ∀ (a : Sl) (b : Frag), RowL 103 5 d9 a c b → Ct pG 135 [(Value.pointer (some ⟨g0, 0, none⟩))] H [bx g0 155 (r8 x0 a), b] (fun v H' Fo => ∃ (r0 : ByteArray), v = (Value.string r0) ∧ Fo = [bx g0 155 (r8 x0 a), b] ∧ K r0 H') noQE
def a1o (x0 : ByteArray) (x1 : ByteArray) (H : Hp) (K : Bool → Hp → Prop) : Prop :=
 Ct pG 153 [(Value.string x0), (Value.string x1)] H [] (fun v H' Fo => ∃ (r0 : Bool), v = (vB r0) ∧ Fo = [] ∧ K r0 H') noQE
def a1I (x0 : ByteArray) (x1 : ByteArray) (H : Hp) (K : Bool → Hp → Prop) : Prop :=
 Ct pG 134 [(Value.string x0), (Value.string x1)] H [] (fun v H' Fo => ∃ (r0 : Bool), v = (vB r0) ∧ Fo = [] ∧ K r0 H') noQE
def Z9 (x0 : Int) (H : Hp) (K : Bool → Hp → Prop) : Prop :=
 Ct pG 136 [(Value.int .i32 x0)] H [] (fun v H' Fo => ∃ (r0 : Bool), v = (vB r0) ∧ Fo = [] ∧ K r0 H') noQE
def z6 (x0 : d6) (f : (List b7)) (H : Hp) (K : d6 → (List b7) → Hp → Prop) : Prop :=
 ∀ (g0 : Nat), ∀ (a : Sl) (b : Frag), RowL 103 5 d9 a f b → Ct pG 152 [(Value.pointer (some ⟨g0, 0, none⟩))] H [bx g0 155 (r8 x0 a), b] (fun v H' Fo => ∃ (y0 : d6) (c : (List b7)) (d : Sl) (e : Frag), v = (Value.tuple #[]) ∧ Fo = [bx g0 155 (r8 y0 d), e] ∧ RowL 103 5 d9 d c e ∧ K y0 c H') noQE
def u9 (x0 : d6) (c : (List b7)) (H : Hp) (K : Int → Bool → Hp → Prop) : Prop :=
 ∀ (g0 : Nat), ∀ (a : Sl) (b : Frag), RowL 103 5 d9 a c b → Ct pG 100 [(Value.pointer (some ⟨g0, 0, none⟩))] H [bx g0 155 (r8 x0 a), b] (fun v H' Fo => ∃ (r0 : Int) (r1 : Bool), v = (Value.tuple #[(Value.int .i32 r0), (vB r1)]) ∧ Fo = [bx g0 155 (r8 x0 a), b] ∧ K r0 r1 H') noQE
def G8 (x0 : d6) (f : (List b7)) (H : Hp) (K : ByteArray → d6 → (List b7) → Hp → Prop) : Prop :=
 ∀ (g0 : Nat), ∀ (a : Sl) (b : Frag), RowL 103 5 d9 a f b → Ct pG 133 [(Value.pointer (some ⟨g0, 0, none⟩)), (fC 136)] H [bx g0 155 (r8 x0 a), b] (fun v H' Fo => ∃ (r0 : ByteArray) (y0 : d6) (c : (List b7)) (d : Sl) (e : Frag), v = (Value.string r0) ∧ Fo = [bx g0 155 (r8 y0 d), e] ∧ RowL 103 5 d9 d c e ∧ K r0 y0 c H') noQE
def a0b (x0 : Int) (H : Hp) (K : Bool → Hp → Prop) : Prop :=
 Ct pG 131 [(Value.int .i32 x0)] H [] (fun v H' Fo => ∃ (r0 : Bool), v = (vB r0) ∧ Fo = [] ∧ K r0 H') noQE
def C9 (x0 : d6) (f : (List b7)) (H : Hp) (K : ByteArray → d6 → (List b7) → Hp → Prop) : Prop :=
 ∀ (g0 : Nat), ∀ (a : Sl) (b : Frag), RowL 103 5 d9 a f b → Ct pG 133 [(Value.pointer (some ⟨g0, 0, none⟩)), (fC 131)] H [bx g0 155 (r8 x0 a), b] (fun v H' Fo => ∃ (r0 : ByteArray) (y0 : d6) (c : (List b7)) (d : Sl) (e : Frag), v = (Value.string r0) ∧ Fo = [bx g0 155 (r8 y0 d), e] ∧ RowL 103 5 d9 d c e ∧ K r0 y0 c H') noQE
def W2 (x0 : d6) (f : (List b7)) (H : Hp) (K : d6 → (List b7) → Hp → Prop) : Prop :=
 ∀ (g0 : Nat), ∀ (a : Sl) (b : Frag), RowL 103 5 d9 a f b → Ct pG 99 [(Value.pointer (some ⟨g0, 0, none⟩))] H [bx g0 155 (r8 x0 a), b] (fun v H' Fo => ∃ (y0 : d6) (c : (List b7)) (d : Sl) (e : Frag), v = (Value.tuple #[]) ∧ Fo = [bx g0 155 (r8 y0 d), e] ∧ RowL 103 5 d9 d c e ∧ K y0 c H') noQE
def a0C (x0 : b6) (x1 : a0A) (H : Hp) (K : Int → b6 → Hp → Prop) : Prop :=
 ∀ (g0 : Nat), Ct pG 121 [(Value.pointer (some ⟨g0, 0, none⟩)), (Value.agg (S6 x1).toArray)] H [bx g0 101 (b9 x0)] (fun v H' Fo => ∃ (r0 : Int) (y0 : b6), v = (vi r0) ∧ Fo = [bx g0 101 (b9 y0)] ∧ K r0 y0 H') noQE
def M9 [PanQ] (x0 : b6) (x1 : Int) (H : Hp) (K : d7 → b6 → Hp → Prop) : Prop :=
 ∀ (g0 : Nat), Ct pG 122 [(Value.pointer (some ⟨g0, 0, none⟩)), (vi x1)] H [bx g0 101 (b9 x0)] (fun v H' Fo => ∃ (r0 : d7) (y0 : b6), v = (Value.agg (f9 r0).toArray) ∧ Fo = [bx g0 101 (b9 y0)] ∧ K r0 y0 H') panQE
def M3 (x0 : d6) (f : (List b7)) (H : Hp) (K : ByteArray → d6 → (List b7) → Hp → Prop) : Prop :=
 ∀ (g0 : Nat), ∀ (a : Sl) (b : Frag), RowL 103 5 d9 a f b → Ct pG 133 [(Value.pointer (some ⟨g0, 0, none⟩)), (fC 154)] H [bx g0 155 (r8 x0 a), b] (fun v H' Fo => ∃ (r0 : ByteArray) (y0 : d6) (c : (List b7)) (d : Sl) (e : Frag), v = (Value.string r0) ∧ Fo = [bx g0 155 (r8 y0 d), e] ∧ RowL 103 5 d9 d c e ∧ K r0 y0 c H') noQE
def a3C (x0 : d6) (f : (List b7)) (H : Hp) (K : b7 → Int → d6 → (List b7) → Hp → Prop) : Prop :=
 ∀ (g0 : Nat), ∀ (a : Sl) (b : Frag), RowL 103 5 d9 a f b → Ct pG 137 [(Value.pointer (some ⟨g0, 0, none⟩))] H [bx g0 155 (r8 x0 a), b] (fun v H' Fo => ∃ (r0 : b7) (r1 : Int) (y0 : d6) (c : (List b7)) (d : Sl) (e : Frag), v = (Value.tuple #[(Value.agg (d9 r0).toArray), (vi r1)]) ∧ Fo = [bx g0 155 (r8 y0 d), e] ∧ RowL 103 5 d9 d c e ∧ K r0 r1 y0 c H') noQE
def a0d (x0 : Int) (H : Hp) (K : Bool → Hp → Prop) : Prop :=
 Ct pG 157 [(Value.int .i32 x0)] H [] (fun v H' Fo => ∃ (r0 : Bool), v = (vB r0) ∧ Fo = [] ∧ K r0 H') noQE
def G9 (x0 : d6) (f : (List b7)) (H : Hp) (K : ByteArray → d6 → (List b7) → Hp → Prop) : Prop :=
 ∀ (g0 : Nat), ∀ (a : Sl) (b : Frag), RowL 103 5 d9 a f b → Ct pG 133 [(Value.pointer (some ⟨g0, 0, none⟩)), (fC 157)] H [bx g0 155 (r8 x0 a), b] (fun v H' Fo => ∃ (r0 : ByteArray) (y0 : d6) (c : (List b7)) (d : Sl) (e : Frag), v = (Value.string r0) ∧ Fo = [bx g0 155 (r8 y0 d), e] ∧ RowL 103 5 d9 d c e ∧ K r0 y0 c H') noQE
def a5T (x0 : ByteArray) (x1 : Int) (x2 : Int) (H : Hp) (K : Int → Value → Hp → Prop) : Prop :=
 Ct pG 158 [(Value.string x0), (vi x1), (vi x2)] H [] (fun v H' Fo => ∃ (r0 : Int) (r1 : Value), v = (Value.tuple #[(vi r0), r1]) ∧ Fo = [] ∧ K r0 r1 H') noQE
def a3e (x0 : d6) (f : (List b7)) (H : Hp) (K : b7 → Int → d6 → (List b7) → Hp → Prop) : Prop :=
 ∀ (g0 : Nat), ∀ (a : Sl) (b : Frag), RowL 103 5 d9 a f b → Ct pG 138 [(Value.pointer (some ⟨g0, 0, none⟩))] H [bx g0 155 (r8 x0 a), b] (fun v H' Fo => ∃ (r0 : b7) (r1 : Int) (y0 : d6) (c : (List b7)) (d : Sl) (e : Frag), v = (Value.tuple #[(Value.agg (d9 r0).toArray), (vi r1)]) ∧ Fo = [bx g0 155 (r8 y0 d), e] ∧ RowL 103 5 d9 d c e ∧ K r0 r1 y0 c H') noQE
def a3D (x0 : d6) (f : (List b7)) (H : Hp) (K : b7 → Int → d6 → (List b7) → Hp → Prop) : Prop :=
 ∀ (g0 : Nat), ∀ (a : Sl) (b : Frag), RowL 103 5 d9 a f b → Ct pG 139 [(Value.pointer (some ⟨g0, 0, none⟩))] H [bx g0 155 (r8 x0 a), b] (fun v H' Fo => ∃ (r0 : b7) (r1 : Int) (y0 : d6) (c : (List b7)) (d : Sl) (e : Frag), v = (Value.tuple #[(Value.agg (d9 r0).toArray), (vi r1)]) ∧ Fo = [bx g0 155 (r8 y0 d), e] ∧ RowL 103 5 d9 d c e ∧ K r0 r1 y0 c H') noQE
def a5U (H : Hp) (K : b7 → Int → Hp → Prop) : Prop :=
 Ct pG 140 [] H [] (fun v H' Fo => ∃ (r0 : b7) (r1 : Int), v = (Value.tuple #[(Value.agg (d9 r0).toArray), (vi r1)]) ∧ Fo = [] ∧ K r0 r1 H') noQE
def a1Q (x0 : K9) (H : Hp) (K : Bool → Hp → Prop) : Prop :=
 Ct pG 205 [(Value.agg (f9 x0.t6).toArray)] H [] (fun v H' Fo => ∃ (r0 : Bool), v = (vB r0) ∧ Fo = [] ∧ K r0 H') noQE
def a5c (x0 : d7) (H : Hp) (K : d8 → Hp → Prop) : Prop :=
 Ct pG 208 [(Value.agg (f9 x0).toArray)] H [] (fun v H' Fo => ∃ (r0 : d8), v = (E5 r0) ∧ Fo = [] ∧ K r0 H') noQE
def z7 (x0 : Sl) (H : Hp) (K : Sl → Hp → Prop) : Prop :=
 Ct pG 207 [(vs x0), (fC 208)] H [] (fun v H' Fo => ∃ (r0 : Sl), v = (vs r0) ∧ Fo = [] ∧ K r0 H') noQE
def a3E (x0 : K9) (H : Hp) (K : Sl → Hp → Prop) : Prop :=
 Ct pG 206 [(Value.agg (f9 x0.t6).toArray)] H [] (fun v H' Fo => ∃ (r0 : Sl), v = (vs r0) ∧ Fo = [] ∧ K r0 H') noQE
def a1R (x0 : R3) (H : Hp) (K : Bool → Hp → Prop) : Prop :=
 Ct pG 209 [(Value.agg (i6 x0.q7).toArray)] H [] (fun v H' Fo => ∃ (r0 : Bool), v = (vB r0) ∧ Fo = [] ∧ K r0 H') noQE
def a5d (x0 : f7) (H : Hp) (K : d8 → Hp → Prop) : Prop :=
 Ct pG 212 [(Value.agg (i6 x0).toArray)] H [] (fun v H' Fo => ∃ (r0 : d8), v = (E5 r0) ∧ Fo = [] ∧ K r0 H') noQE
def C8 (x0 : Sl) (H : Hp) (K : Sl → Hp → Prop) : Prop :=
 Ct pG 211 [(vs x0), (fC 212)] H [] (fun v H' Fo => ∃ (r0 : Sl), v = (vs r0) ∧ Fo = [] ∧ K r0 H') noQE
def a3F (x0 : R3) (H : Hp) (K : Sl → Hp → Prop) : Prop :=
 Ct pG 210 [(Value.agg (i6 x0.q7).toArray)] H [] (fun v H' Fo => ∃ (r0 : Sl), v = (vs r0) ∧ Fo = [] ∧ K r0 H') noQE
def a4f (x0 : U3) (H : Hp) (K : Bool → Hp → Prop) : Prop :=
 Ct pG 213 [(Value.agg (A0 x0.V1).toArray)] H [] (fun v H' Fo => ∃ (r0 : Bool), v = (vB r0) ∧ Fo = [] ∧ K r0 H') noQE
def a3G (x0 : U3) (H : Hp) (K : Sl → Hp → Prop) : Prop :=
 Ct pG 214 [(Value.agg (A0 x0.V1).toArray)] H [] (fun v H' Fo => ∃ (r0 : Sl), v = (vs r0) ∧ Fo = [] ∧ K r0 H') noQE
def a1S (x0 : R4) (H : Hp) (K : Bool → Hp → Prop) : Prop :=
 Ct pG 215 [(Value.agg (t7 x0.i8).toArray)] H [] (fun v H' Fo => ∃ (r0 : Bool), v = (vB r0) ∧ Fo = [] ∧ K r0 H') noQE
def a3H (x0 : R4) (H : Hp) (K : Sl → Hp → Prop) : Prop :=
 Ct pG 216 [(Value.agg (t7 x0.i8).toArray)] H [] (fun v H' Fo => ∃ (r0 : Sl), v = (vs r0) ∧ Fo = [] ∧ K r0 H') noQE
def a6L (x0 : ByteArray) (x1 : Int) (H : Hp) (K : c8 → Hp → Prop) : Prop :=
 Ct pG 98 [(Value.string x0), (vi x1)] H [] (fun v H' Fo => ∃ (r0 : c8), v = (Value.agg (j9 r0).toArray) ∧ Fo = [] ∧ K r0 H') noQE
def a2O (x : d8) (H : Hp) (K : Bool → Hp → Prop) : Prop := match x with
 | .nil => False
 | .E4 y => a1Q y H K
 | .L1 y => a1R y H K
 | .K0 y => a4f y H K
 | .F0 y => a1S y H K
def a2C (x : d8) (H : Hp) (K : Sl → Hp → Prop) : Prop := match x with
 | .nil => False
 | .E4 y => a3E y H K
 | .L1 y => a3F y H K
 | .K0 y => a3G y H K
 | .F0 y => a3H y H K
theorem a7H {E : Pan} {w0 w : World} {ps : Nat → Prop} {H0 H : Hp} {Fr : List Frag} {K : RT} {Kc : Bool → Hp → Prop} {x : d8} (I : Inv w0 ps H0 H Fr w) (h : a2O x H Kc) (hq : ∀ (r0 : Bool) (H' : Hp) (w' : World), Inv w0 ps H0 H' Fr w' → Hle H H' → (∀ i, i < w.heap.size → ¬ inF [] i → w'.heap[i]? = w.heap[i]?) → Kc r0 H' → K (vB r0) w') : oP E (xInvoke (E5 x) "gnomon/tree.form" []) w K := by
 cases x with
 | nil => exact h.elim
 | E4 y => exact Z6 (f := 205) (args := [(Value.agg (f9 y.t6).toArray)].toArray) (by kernel_rfl) (a2x (Fi := []) I h (fun v H' Fo w' I' l hk hq' => by obtain ⟨r0, rfl, rfl, hK⟩ := hq'; exact hq r0 H' w' I' l hk hK) (fun _ _ _ _ _ q => q.elim))
 | L1 y => exact Z6 (f := 209) (args := [(Value.agg (i6 y.q7).toArray)].toArray) (by kernel_rfl) (a2x (Fi := []) I h (fun v H' Fo w' I' l hk hq' => by obtain ⟨r0, rfl, rfl, hK⟩ := hq'; exact hq r0 H' w' I' l hk hK) (fun _ _ _ _ _ q => q.elim))
 | K0 y => exact Z6 (f := 213) (args := [(Value.agg (A0 y.V1).toArray)].toArray) (by kernel_rfl) (a2x (Fi := []) I h (fun v H' Fo w' I' l hk hq' => by obtain ⟨r0, rfl, rfl, hK⟩ := hq'; exact hq r0 H' w' I' l hk hK) (fun _ _ _ _ _ q => q.elim))
 | F0 y => exact Z6 (f := 215) (args := [(Value.agg (t7 y.i8).toArray)].toArray) (by kernel_rfl) (a2x (Fi := []) I h (fun v H' Fo w' I' l hk hq' => by obtain ⟨r0, rfl, rfl, hK⟩ := hq'; exact hq r0 H' w' I' l hk hK) (fun _ _ _ _ _ q => q.elim))
theorem a7t {E : Pan} {w0 w : World} {ps : Nat → Prop} {H0 H : Hp} {Fr : List Frag} {K : RT} {Kc : Sl → Hp → Prop} {x : d8} (I : Inv w0 ps H0 H Fr w) (h : a2C x H Kc) (hq : ∀ (r0 : Sl) (H' : Hp) (w' : World), Inv w0 ps H0 H' Fr w' → Hle H H' → (∀ i, i < w.heap.size → ¬ inF [] i → w'.heap[i]? = w.heap[i]?) → Kc r0 H' → K (vs r0) w') : oP E (xInvoke (E5 x) "gnomon/tree.parts" []) w K := by
 cases x with
 | nil => exact h.elim
 | E4 y => exact Z6 (f := 206) (args := [(Value.agg (f9 y.t6).toArray)].toArray) (by kernel_rfl) (a2x (Fi := []) I h (fun v H' Fo w' I' l hk hq' => by obtain ⟨r0, rfl, rfl, hK⟩ := hq'; exact hq r0 H' w' I' l hk hK) (fun _ _ _ _ _ q => q.elim))
 | L1 y => exact Z6 (f := 210) (args := [(Value.agg (i6 y.q7).toArray)].toArray) (by kernel_rfl) (a2x (Fi := []) I h (fun v H' Fo w' I' l hk hq' => by obtain ⟨r0, rfl, rfl, hK⟩ := hq'; exact hq r0 H' w' I' l hk hK) (fun _ _ _ _ _ q => q.elim))
 | K0 y => exact Z6 (f := 214) (args := [(Value.agg (A0 y.V1).toArray)].toArray) (by kernel_rfl) (a2x (Fi := []) I h (fun v H' Fo w' I' l hk hq' => by obtain ⟨r0, rfl, rfl, hK⟩ := hq'; exact hq r0 H' w' I' l hk hK) (fun _ _ _ _ _ q => q.elim))
 | F0 y => exact Z6 (f := 216) (args := [(Value.agg (t7 y.i8).toArray)].toArray) (by kernel_rfl) (a2x (Fi := []) I h (fun v H' Fo w' I' l hk hq' => by obtain ⟨r0, rfl, rfl, hK⟩ := hq'; exact hq r0 H' w' I' l hk hK) (fun _ _ _ _ _ q => q.elim))
end Go.Proofs.YthklmeihgmcljaaGreatDoor
