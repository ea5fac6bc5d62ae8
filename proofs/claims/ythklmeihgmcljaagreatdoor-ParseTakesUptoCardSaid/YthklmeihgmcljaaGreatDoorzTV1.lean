/- Contracts of the program's functions; printed by lift.py off the code. -/
import Derived.Test.YthklmeihgmcljaaGreatDoorzTU1
import Derived.Test.YthklmeihgmcljaaGreatDoorzTG1a
import Derived.Test.YthklmeihgmcljaaGreatDoorzTG1b
import Derived.Test.YthklmeihgmcljaaGreatDoorzTG1c
namespace Go.Proofs.YthklmeihgmcljaaGreatDoor
open Go.RowKit
set_option maxRecDepth 100000
set_option maxHeartbeats 2000000
def G4 (x0 : ByteArray) (H : Hp) (K : l7 → b8 → Int → Hp → Prop) : Prop :=
 Ct pG 20 [(Value.string x0), (fC 21), (fC 12)] H [] (fun v H' Fo => ∃ (r0 : l7) (r1 : b8) (r2 : Int), v = (Value.tuple #[(Value.agg (l9 r0).toArray), (Value.agg (j8 r1).toArray), (vi r2)]) ∧ Fo = [] ∧ K r0 r1 r2 H') noQE
def W1 (x0 : ByteArray) (H : Hp) (K : l7 → b8 → Int → Hp → Prop) : Prop :=
 Ct pG 9 [(Value.string x0)] H [] (fun v H' Fo => ∃ (r0 : l7) (r1 : b8) (r2 : Int), v = (Value.tuple #[(Value.agg (l9 r0).toArray), (Value.agg (j8 r1).toArray), (vi r2)]) ∧ Fo = [] ∧ K r0 r1 r2 H') noQE
def a1K (H : Hp) (K : Bool → Hp → Prop) : Prop :=
 Ct pG 8 [] H [] (fun v H' Fo => ∃ (r0 : Bool), v = (vB r0) ∧ Fo = [] ∧ K r0 H') noQE
def Y8 (x0 : b6) (H : Hp) (K : b5 → Hp → Prop) : Prop :=
 ∀ (g0 : Nat), Ct pG 63 [(Value.pointer (some ⟨g0, 0, none⟩))] H [bx g0 66 (m5 x0)] (fun v H' Fo => ∃ (r0 : b5), v = (Value.agg (f9 r0).toArray) ∧ Fo = [bx g0 66 (m5 x0)] ∧ K r0 H') noQE
def y4 (x0 : b6) (x1 : ByteArray) (H : Hp) (K : Bool → Hp → Prop) : Prop :=
 ∀ (g0 : Nat), Ct pG 23 [(Value.pointer (some ⟨g0, 0, none⟩)), (Value.string x1)] H [bx g0 66 (m5 x0)] (fun v H' Fo => ∃ (r0 : Bool), v = (vB r0) ∧ Fo = [bx g0 66 (m5 x0)] ∧ K r0 H') noQE
def P8 (x0 : b6) (x1 : ByteArray) (H : Hp) (K : Bool → b6 → Hp → Prop) : Prop :=
 ∀ (g0 : Nat), Ct pG 67 [(Value.pointer (some ⟨g0, 0, none⟩)), (Value.string x1)] H [bx g0 66 (m5 x0)] (fun v H' Fo => ∃ (r0 : Bool) (y0 : b6), v = (vB r0) ∧ Fo = [bx g0 66 (m5 y0)] ∧ K r0 y0 H') noQE
def Y9 (x0 : b6) (x1 : Int) (H : Hp) (K : b9 → b6 → Hp → Prop) : Prop :=
 ∀ (g0 : Nat), Ct pG 123 [(Value.pointer (some ⟨g0, 0, none⟩)), (vi x1)] H [bx g0 66 (m5 x0)] (fun v H' Fo => ∃ (r0 : b9) (y0 : b6), v = (Value.agg (d9 r0).toArray) ∧ Fo = [bx g0 66 (m5 y0)] ∧ K r0 y0 H') noQE
def N7 (x0 : b6) (H : Hp) (K : Int → Hp → Prop) : Prop :=
 ∀ (g0 : Nat), Ct pG 124 [(Value.pointer (some ⟨g0, 0, none⟩))] H [bx g0 66 (m5 x0)] (fun v H' Fo => ∃ (r0 : Int), v = (vi r0) ∧ Fo = [bx g0 66 (m5 x0)] ∧ K r0 H') noQE
def T8 (x0 : b6) (x1 : Int) (H : Hp) (K : b9 → b6 → Hp → Prop) : Prop :=
 ∀ (g0 : Nat), Ct pG 83 [(Value.pointer (some ⟨g0, 0, none⟩)), (vi x1)] H [bx g0 66 (m5 x0)] (fun v H' Fo => ∃ (r0 : b9) (y0 : b6), v = (Value.agg (d9 r0).toArray) ∧ Fo = [bx g0 66 (m5 y0)] ∧ K r0 y0 H') noQE
def a2u (x0 : b6) (x1 : Int) (H : Hp) (K : b9 → b6 → Hp → Prop) : Prop :=
 ∀ (g0 : Nat), Ct pG 37 [(Value.pointer (some ⟨g0, 0, none⟩)), (vi x1)] H [bx g0 66 (m5 x0)] (fun v H' Fo => ∃ (r0 : b9) (y0 : b6), v = (Value.agg (d9 r0).toArray) ∧ Fo = [bx g0 66 (m5 y0)] ∧ K r0 y0 H') noQE
def a0d (x0 : b6) (x1 : Int) (H : Hp) (K : f8 → b6 → Hp → Prop) : Prop :=
 ∀ (g0 : Nat), Ct pG 127 [(Value.pointer (some ⟨g0, 0, none⟩)), (vi x1)] H [bx g0 66 (m5 x0)] (fun v H' Fo => ∃ (r0 : f8) (y0 : b6), v = (Value.agg (g8 r0).toArray) ∧ Fo = [bx g0 66 (m5 y0)] ∧ K r0 y0 H') noQE
def T9 (x0 : b6) (x1 : Int) (H : Hp) (K : f8 → b6 → Hp → Prop) : Prop :=
 ∀ (g0 : Nat), Ct pG 90 [(Value.pointer (some ⟨g0, 0, none⟩)), (vi x1)] H [bx g0 66 (m5 x0)] (fun v H' Fo => ∃ (r0 : f8) (y0 : b6), v = (Value.agg (g8 r0).toArray) ∧ Fo = [bx g0 66 (m5 y0)] ∧ K r0 y0 H') noQE
def a2v (x0 : b6) (x1 : Int) (H : Hp) (K : f8 → b6 → Hp → Prop) : Prop :=
 ∀ (g0 : Nat), Ct pG 43 [(Value.pointer (some ⟨g0, 0, none⟩)), (vi x1)] H [bx g0 66 (m5 x0)] (fun v H' Fo => ∃ (r0 : f8) (y0 : b6), v = (Value.agg (g8 r0).toArray) ∧ Fo = [bx g0 66 (m5 y0)] ∧ K r0 y0 H') noQE
def a5H (x0 : k7) (H : Hp) (K : d8 → Hp → Prop) : Prop :=
 Ct pG 77 [(Value.agg (y3 x0).toArray)] H [] (fun v H' Fo => ∃ (r0 : d8), v = (H7 r0) ∧ Fo = [] ∧ K r0 H') noQE
def K3 (x0 : Sl) (H : Hp) (K : Sl → Hp → Prop) : Prop :=
 Ct pG 76 [(vs x0), (fC 77)] H [] (fun v H' Fo => ∃ (r0 : Sl), v = (vs r0) ∧ Fo = [] ∧ K r0 H') noQE
def a5I (x0 : g5) (H : Hp) (K : d8 → Hp → Prop) : Prop :=
 Ct pG 79 [(Value.agg (l8 x0).toArray)] H [] (fun v H' Fo => ∃ (r0 : d8), v = (H7 r0) ∧ Fo = [] ∧ K r0 H') noQE
def B2 (x0 : Sl) (H : Hp) (K : Sl → Hp → Prop) : Prop :=
 Ct pG 78 [(vs x0), (fC 79)] H [] (fun v H' Fo => ∃ (r0 : Sl), v = (vs r0) ∧ Fo = [] ∧ K r0 H') noQE
def S6 (x1 : Int) (H : Hp) (K : (List d8) → Hp → Prop) : Prop :=
 Ct pG 120 [(nS), (vi x1)] H [] (fun v H' Fo => ∃ (r0 : (List d8)) (sr0 : Sl) (Fr0 : Frag), v = (vs sr0) ∧ Fo = [Fr0] ∧ RowL 131 1 v7 sr0 r0 Fr0 ∧ K r0 H') noQE
def D5 (x0 : Sl) (H : Hp) (K : Sl → Hp → Prop) : Prop :=
 Ct pG 75 [(vs x0)] H [] (fun v H' Fo => ∃ (r0 : Sl), v = (vs r0) ∧ Fo = [] ∧ K r0 H') noQE
def a0Y (x0 : d8) (H : Hp) (K : ByteArray → Bool → Hp → Prop) : Prop :=
 Ct pG 143 [(H7 x0)] H [] (fun v H' Fo => ∃ (r0 : ByteArray) (r1 : Bool), v = (Value.tuple #[(Value.string r0), (vB r1)]) ∧ Fo = [] ∧ K r0 r1 H') noQE
def M2 (x0 : Int) (x1 : Int) (x2 : Int) (H : Hp) (K : Bool → Hp → Prop) : Prop :=
 ∀ (g2 : Nat), Ct pG 151 [(Value.int .i32 x0), (Value.int .i32 x1), (Value.pointer (some ⟨g2, 0, none⟩))] H [bx g2 21 [(Value.int .i32 x2)]] (fun v H' Fo => ∃ (r0 : Bool), v = (vB r0) ∧ Fo = [bx g2 21 [(Value.int .i32 x2)]] ∧ K r0 H') noQE
def R1 (x0 : Int) (H : Hp) (K : Int → Hp → Prop) : Prop :=
 Ct pG 132 [(Value.int .i32 x0)] H [] (fun v H' Fo => ∃ (r0 : Int), v = (vi r0) ∧ Fo = [] ∧ K r0 H') noQE
def a2q (x0 : Int) (H : Hp) (K : Bool → Hp → Prop) : Prop :=
 Ct pG 154 [(Value.int .i32 x0)] H [] (fun v H' Fo => ∃ (r0 : Bool), v = (vB r0) ∧ Fo = [] ∧ K r0 H') noQE
def a3T (x0 : ByteArray) (H : Hp) (K : Bool → Hp → Prop) : Prop :=
 Ct pG 160 [(Value.string x0)] H [] (fun v H' Fo => ∃ (r0 : Bool), v = (vB r0) ∧ Fo = [] ∧ K r0 H') noQE
def Y2 (x0 : ByteArray) (H : Hp) (K : Int → Hp → Prop) : Prop :=
 Ct pG 162 [(Value.string x0)] H [] (fun v H' Fo => ∃ (r0 : Int), v = (vi r0) ∧ Fo = [] ∧ K r0 H') noQE
def a1H (x0 : ByteArray) (H : Hp) (K : Bool → Hp → Prop) : Prop :=
 Ct pG 156 [(Value.string x0)] H [] (fun v H' Fo => ∃ (r0 : Bool), v = (vB r0) ∧ Fo = [] ∧ K r0 H') noQE
def a0l (x0 : ByteArray) (H : Hp) (K : Bool → Hp → Prop) : Prop :=
 Ct pG 155 [(Value.string x0)] H [] (fun v H' Fo => ∃ (r0 : Bool), v = (vB r0) ∧ Fo = [] ∧ K r0 H') noQE
def a3j (x0 : ByteArray) (H : Hp) (K : Bool → Hp → Prop) : Prop :=
 Ct pG 144 [(Value.string x0)] H [] (fun v H' Fo => ∃ (r0 : Bool), v = (vB r0) ∧ Fo = [] ∧ K r0 H') noQE
def a0v (x0 : (List ByteArray)) (x1 : ByteArray) (H : Hp) (K : Int → Hp → Prop) : Prop :=
 ∀ (sx0 : Sl) (Fx0 : Frag), RowL 9 1 K2 sx0 x0 Fx0 → Ct pG 161 [(vs sx0), (Value.string x1)] H [Fx0] (fun v H' Fo => ∃ (r0 : Int), v = (vi r0) ∧ Fo = [Fx0] ∧ K r0 H') noQE
def O1 (x0 : (List ByteArray)) (x1 : ByteArray) (H : Hp) (K : Bool → Hp → Prop) : Prop :=
 ∀ (sx0 : Sl) (Fx0 : Frag), RowL 9 1 K2 sx0 x0 Fx0 → Ct pG 145 [(vs sx0), (Value.string x1)] H [Fx0] (fun v H' Fo => ∃ (r0 : Bool), v = (vB r0) ∧ Fo = [Fx0] ∧ K r0 H') noQE
def a1o (x0 : m8) (f : (List ByteArray)) (x1 : d8) (x2 : Int) (H : Hp) (K : Bool → m8 → (List ByteArray) → Hp → Prop) : Prop :=
 ∀ (g0 : Nat), ∀ (a : Sl) (b : Frag), RowL 9 1 K2 a f b → Ct pG 119 [(Value.pointer (some ⟨g0, 0, none⟩)), (H7 x1), (vi x2)] H [bx g0 79 (a0u x0 a), b] (fun v H' Fo => ∃ (r0 : Bool) (y0 : m8) (c : (List ByteArray)) (d : Sl) (e : Frag), v = (vB r0) ∧ Fo = [bx g0 79 (a0u y0 d), e] ∧ RowL 9 1 K2 d c e ∧ K r0 y0 c H') noQE
def X6 (x0 : Sl) (x1 : Int) (x2 : m8) (f : (List ByteArray)) (H : Hp) (K : Bool → m8 → (List ByteArray) → Hp → Prop) : Prop :=
 ∀ (g2 g2b g3 : Nat), ∀ (a : Sl) (b : Frag), RowL 9 1 K2 a f b → Ct pG 118 [(vs x0), (vi x1), (Value.pointer (some ⟨g2, 0, none⟩)), (Value.pointer (some ⟨g3, 0, none⟩))] H [bx g2 80 [(Value.pointer (some ⟨g2b, 0, none⟩))], bx g2b 79 (a0u x2 a), b, bx g3 169 [(Value.func (.func 118) #[] #[(Value.pointer (some ⟨g2, 0, none⟩)), (Value.pointer (some ⟨g3, 0, none⟩))])]] (fun v H' Fo => ∃ (r0 : Bool) (y0 : m8) (c : (List ByteArray)) (d : Sl) (e : Frag), v = (vB r0) ∧ Fo = [bx g2 80 [(Value.pointer (some ⟨g2b, 0, none⟩))], bx g2b 79 (a0u y0 d), e, bx g3 169 [(Value.func (.func 118) #[] #[(Value.pointer (some ⟨g2, 0, none⟩)), (Value.pointer (some ⟨g3, 0, none⟩))])]] ∧ RowL 9 1 K2 d c e ∧ K r0 y0 c H') noQE
def a3E (x0 : Sl) (H : Hp) (K : m8 → Hp → Prop) : Prop :=
 Ct pG 74 [(vs x0)] H [] (fun v H' Fo => ∃ (r0 : m8) (gr0 : Nat), v = (Value.pointer (some ⟨gr0, 0, none⟩)) ∧ Fo = [bx gr0 79 (a8o r0)] ∧ K r0 H') noQE
def a4V (x0 : l7) (H : Hp) (K : m8 → Hp → Prop) : Prop :=
 Ct pG 32 [(Value.agg (l9 x0).toArray)] H [] (fun v H' Fo => ∃ (r0 : m8) (gr0 : Nat), v = (Value.pointer (some ⟨gr0, 0, none⟩)) ∧ Fo = [bx gr0 79 (a8o r0)] ∧ K r0 H') noQE
def a0p (x0 : l7) (H : Hp) (K : Int → Hp → Prop) : Prop :=
 Ct pG 12 [(Value.agg (l9 x0).toArray)] H [] (fun v H' Fo => ∃ (r0 : Int), v = (vi r0) ∧ Fo = [] ∧ K r0 H') noQE
def a1j (x0 : l7) (H : Hp) (K : Bool → Hp → Prop) : Prop :=
 Ct pG 45 [(Value.agg (l9 x0).toArray)] H [] (fun v H' Fo => ∃ (r0 : Bool), v = (vB r0) ∧ Fo = [] ∧ K r0 H') noQE
def E1 (x0 : Sl) (x1 : Sl) (H : Hp) (K : Bool → Hp → Prop) : Prop :=
 Ct pG 46 [(vs x0), (vs x1)] H [] (fun v H' Fo => ∃ (r0 : Bool), v = (vB r0) ∧ Fo = [] ∧ K r0 H') noQE
def a0N (x0 : b9) (x1 : b9) (H : Hp) (K : Bool → Hp → Prop) : Prop :=
 Ct pG 94 [(Value.agg (d9 x0).toArray), (Value.agg (d9 x1).toArray)] H [] (fun v H' Fo => ∃ (r0 : Bool), v = (vB r0) ∧ Fo = [] ∧ K r0 H') noQE
def m9 (x0 : Sl) (x1 : Sl) (H : Hp) (K : Bool → Hp → Prop) : Prop :=
 Ct pG 93 [(vs x0), (vs x1), (fC 94)] H [] (fun v H' Fo => ∃ (r0 : Bool), v = (vB r0) ∧ Fo = [] ∧ K r0 H') noQE
def a0O (x0 : f8) (x1 : f8) (H : Hp) (K : Bool → Hp → Prop) : Prop :=
 Ct pG 96 [(Value.agg (g8 x0).toArray), (Value.agg (g8 x1).toArray)] H [] (fun v H' Fo => ∃ (r0 : Bool), v = (vB r0) ∧ Fo = [] ∧ K r0 H') noQE
def l0 (x0 : Sl) (x1 : Sl) (H : Hp) (K : Bool → Hp → Prop) : Prop :=
 Ct pG 95 [(vs x0), (vs x1), (fC 96)] H [] (fun v H' Fo => ∃ (r0 : Bool), v = (vB r0) ∧ Fo = [] ∧ K r0 H') noQE
def a0P (x0 : g5) (x1 : g5) (H : Hp) (K : Bool → Hp → Prop) : Prop :=
 Ct pG 48 [(Value.agg (l8 x0).toArray), (Value.agg (l8 x1).toArray)] H [] (fun v H' Fo => ∃ (r0 : Bool), v = (vB r0) ∧ Fo = [] ∧ K r0 H') noQE
def d6 (x0 : Sl) (x1 : Sl) (H : Hp) (K : Bool → Hp → Prop) : Prop :=
 Ct pG 47 [(vs x0), (vs x1), (fC 48)] H [] (fun v H' Fo => ∃ (r0 : Bool), v = (vB r0) ∧ Fo = [] ∧ K r0 H') noQE
def a2r (x0 : l7) (x1 : l7) (H : Hp) (K : Bool → Hp → Prop) : Prop :=
 Ct pG 19 [(Value.agg (l9 x0).toArray), (Value.agg (l9 x1).toArray)] H [] (fun v H' Fo => ∃ (r0 : Bool), v = (vB r0) ∧ Fo = [] ∧ K r0 H') noQE
def a0e (x0 : ByteArray) (H : Hp) (K : Bool → Hp → Prop) : Prop :=
 Ct pG 7 [(Value.string x0)] H [] (fun v H' Fo => ∃ (r0 : Bool), v = (vB r0) ∧ Fo = [] ∧ K r0 H') noQE
def B1 (x0 : a8) (H : Hp) (K : b5 → Hp → Prop) : Prop :=
 ∀ (g0 : Nat), Ct pG 51 [(Value.pointer (some ⟨g0, 0, none⟩))] H [bx g0 101 (b7 x0)] (fun v H' Fo => ∃ (r0 : b5), v = (Value.agg (f9 r0).toArray) ∧ Fo = [bx g0 101 (b7 x0)] ∧ K r0 H') noQE
def i7 (x0 : a8) (x1 : ByteArray) (H : Hp) (K : Bool → Hp → Prop) : Prop :=
 ∀ (g0 : Nat), Ct pG 53 [(Value.pointer (some ⟨g0, 0, none⟩)), (Value.string x1)] H [bx g0 101 (b7 x0)] (fun v H' Fo => ∃ (r0 : Bool), v = (vB r0) ∧ Fo = [bx g0 101 (b7 x0)] ∧ K r0 H') noQE
def N8 (x0 : a8) (H : Hp) (K : Bool → Hp → Prop) : Prop :=
 ∀ (g0 : Nat), Ct pG 56 [(Value.pointer (some ⟨g0, 0, none⟩))] H [bx g0 101 (b7 x0)] (fun v H' Fo => ∃ (r0 : Bool), v = (vB r0) ∧ Fo = [bx g0 101 (b7 x0)] ∧ K r0 H') noQE
def D8 [PanQ] (x0 : a8) (H : Hp) (K : Hp → Prop) : Prop :=
 ∀ (g0 : Nat), Ct pG 52 [(Value.pointer (some ⟨g0, 0, none⟩))] H [bx g0 101 (b7 x0)] (fun v H' Fo => v = (Value.tuple #[]) ∧ Fo = [bx g0 101 (b7 x0)] ∧ K H') panQE
def C2 [PanQ] (x0 : a8) (x1 : Int) (x2 : Bool) (H : Hp) (K : Hp → Prop) : Prop :=
 ∀ (g0 : Nat), Ct pG 55 [(Value.pointer (some ⟨g0, 0, none⟩)), (vi x1), (vB x2)] H [bx g0 101 (b7 x0)] (fun v H' Fo => v = (Value.tuple #[]) ∧ Fo = [bx g0 101 (b7 x0)] ∧ K H') panQE
def u0 (x0 : a8) (x1 : ByteArray) (H : Hp) (K : Bool → a8 → Hp → Prop) : Prop :=
 ∀ (g0 : Nat), Ct pG 105 [(Value.pointer (some ⟨g0, 0, none⟩)), (Value.string x1)] H [bx g0 101 (b7 x0)] (fun v H' Fo => ∃ (r0 : Bool) (y0 : a8), v = (vB r0) ∧ Fo = [bx g0 101 (b7 y0)] ∧ K r0 y0 H') noQE
def B8 [PanQ] (x0 : a8) (x1 : ByteArray) (H : Hp) (K : a8 → Hp → Prop) : Prop :=
 ∀ (g0 : Nat), Ct pG 103 [(Value.pointer (some ⟨g0, 0, none⟩)), (Value.string x1)] H [bx g0 101 (b7 x0)] (fun v H' Fo => ∃ (y0 : a8), v = (Value.tuple #[]) ∧ Fo = [bx g0 101 (b7 y0)] ∧ K y0 H') panQE
def O8 [PanQ] (x0 : a8) (x1 : Int) (H : Hp) (K : b9 → a8 → Hp → Prop) : Prop :=
 ∀ (g0 : Nat), Ct pG 35 [(Value.pointer (some ⟨g0, 0, none⟩)), (vi x1)] H [bx g0 101 (b7 x0)] (fun v H' Fo => ∃ (r0 : b9) (y0 : a8), v = (Value.agg (d9 r0).toArray) ∧ Fo = [bx g0 101 (b7 y0)] ∧ K r0 y0 H') panQE
def O9 [PanQ] (x0 : a8) (H : Hp) (K : b5 → a8 → Hp → Prop) : Prop :=
 ∀ (g0 : Nat), Ct pG 104 [(Value.pointer (some ⟨g0, 0, none⟩))] H [bx g0 101 (b7 x0)] (fun v H' Fo => ∃ (r0 : b5) (y0 : a8), v = (Value.agg (f9 r0).toArray) ∧ Fo = [bx g0 101 (b7 y0)] ∧ K r0 y0 H') panQE
def G3 (x0 : a8) (H : Hp) (K : Bool → Hp → Prop) : Prop :=
 ∀ (g0 : Nat), Ct pG 141 [(Value.pointer (some ⟨g0, 0, none⟩))] H [bx g0 101 (b7 x0)] (fun v H' Fo => ∃ (r0 : Bool), v = (vB r0) ∧ Fo = [bx g0 101 (b7 x0)] ∧ K r0 H') noQE
def S7 [PanQ] (x0 : a8) (x1 : Int) (x2 : ByteArray) (H : Hp) (K : b9 → a8 → Hp → Prop) : Prop :=
 ∀ (g0 : Nat), Ct pG 106 [(Value.pointer (some ⟨g0, 0, none⟩)), (vi x1), (Value.string x2)] H [bx g0 101 (b7 x0)] (fun v H' Fo => ∃ (r0 : b9) (y0 : a8), v = (Value.agg (d9 r0).toArray) ∧ Fo = [bx g0 101 (b7 y0)] ∧ K r0 y0 H') panQE
def M4 [PanQ] (x0 : a8) (x1 : Int) (H : Hp) (K : f8 → a8 → Hp → Prop) : Prop :=
 ∀ (g0 : Nat), Ct pG 41 [(Value.pointer (some ⟨g0, 0, none⟩)), (vi x1)] H [bx g0 101 (b7 x0)] (fun v H' Fo => ∃ (r0 : f8) (y0 : a8), v = (Value.agg (g8 r0).toArray) ∧ Fo = [bx g0 101 (b7 y0)] ∧ K r0 y0 H') panQE
def S8 [PanQ] (x0 : a8) (x1 : Int) (H : Hp) (K : Sl → a8 → Hp → Prop) : Prop :=
 ∀ (g0 : Nat), Ct pG 107 [(Value.pointer (some ⟨g0, 0, none⟩)), (vi x1)] H [bx g0 101 (b7 x0)] (fun v H' Fo => ∃ (r0 : Sl) (y0 : a8), v = (vs r0) ∧ Fo = [bx g0 101 (b7 y0)] ∧ K r0 y0 H') panQE
def T5 [PanQ] (x0 : a8) (x1 : Int) (H : Hp) (K : g5 → a8 → Hp → Prop) : Prop :=
 ∀ (g0 : Nat), Ct pG 57 [(Value.pointer (some ⟨g0, 0, none⟩)), (vi x1)] H [bx g0 101 (b7 x0)] (fun v H' Fo => ∃ (r0 : g5) (y0 : a8), v = (Value.agg (l8 r0).toArray) ∧ Fo = [bx g0 101 (b7 y0)] ∧ K r0 y0 H') panQE
def a1p [PanQ] (x0 : a8) (x1 : Int) (H : Hp) (K : b5 → a8 → Hp → Prop) : Prop :=
 ∀ (g0 : Nat), Ct pG 102 [(Value.pointer (some ⟨g0, 0, none⟩)), (vi x1)] H [bx g0 101 (b7 x0)] (fun v H' Fo => ∃ (r0 : b5) (y0 : a8), v = (Value.agg (f9 r0).toArray) ∧ Fo = [bx g0 101 (b7 y0)] ∧ K r0 y0 H') panQE
def Y0 [PanQ] (x0 : a8) (H : Hp) (K : k7 → a8 → Hp → Prop) : Prop :=
 ∀ (g0 : Nat), Ct pG 54 [(Value.pointer (some ⟨g0, 0, none⟩))] H [bx g0 101 (b7 x0)] (fun v H' Fo => ∃ (r0 : k7) (y0 : a8), v = (Value.agg (y3 r0).toArray) ∧ Fo = [bx g0 101 (b7 y0)] ∧ K r0 y0 H') panQE
def a1q [PanQ] (x0 : a8) (H : Hp) (K : l7 → a8 → Hp → Prop) : Prop :=
 ∀ (g0 : Nat), Ct pG 21 [(Value.pointer (some ⟨g0, 0, none⟩))] H [bx g0 101 (b7 x0)] (fun v H' Fo => ∃ (r0 : l7) (y0 : a8), v = (Value.agg (l9 r0).toArray) ∧ Fo = [bx g0 101 (b7 y0)] ∧ K r0 y0 H') panQE
def a5V (x0 : ByteArray) (H : Hp) (K : Sl → b8 → Int → Hp → Prop) : Prop :=
 Ct pG 49 [(Value.string x0)] H [] (fun v H' Fo => ∃ (r0 : Sl) (r1 : b8) (r2 : Int), v = (Value.tuple #[(vs r0), (Value.agg (j8 r1).toArray), (vi r2)]) ∧ Fo = [] ∧ K r0 r1 r2 H') noQE
def a1r [PanQ] (x0 : a8) (x1 : Int) (H : Hp) (K : b9 → a8 → Hp → Prop) : Prop :=
 ∀ (g0 : Nat), Ct pG 82 [(Value.pointer (some ⟨g0, 0, none⟩)), (vi x1)] H [bx g0 101 (b7 x0)] (fun v H' Fo => ∃ (r0 : b9) (y0 : a8), v = (Value.agg (d9 r0).toArray) ∧ Fo = [bx g0 101 (b7 y0)] ∧ K r0 y0 H') panQE
def a0f [PanQ] (x0 : a8) (H : Hp) (K : Int → a8 → Hp → Prop) : Prop :=
 ∀ (g0 : Nat), Ct pG 126 [(Value.pointer (some ⟨g0, 0, none⟩))] H [bx g0 101 (b7 x0)] (fun v H' Fo => ∃ (r0 : Int) (y0 : a8), v = (vi r0) ∧ Fo = [bx g0 101 (b7 y0)] ∧ K r0 y0 H') panQE
def O2 (x0 : a8) (H : Hp) (K : Bool → Hp → Prop) : Prop :=
 ∀ (g0 : Nat), Ct pG 125 [(Value.pointer (some ⟨g0, 0, none⟩))] H [bx g0 101 (b7 x0)] (fun v H' Fo => ∃ (r0 : Bool), v = (vB r0) ∧ Fo = [bx g0 101 (b7 x0)] ∧ K r0 H') noQE
def U5 [PanQ] (x0 : a8) (x1 : Int) (H : Hp) (K : f8 → a8 → Hp → Prop) : Prop :=
 ∀ (g0 : Nat), Ct pG 89 [(Value.pointer (some ⟨g0, 0, none⟩)), (vi x1)] H [bx g0 101 (b7 x0)] (fun v H' Fo => ∃ (r0 : f8) (y0 : a8), v = (Value.agg (g8 r0).toArray) ∧ Fo = [bx g0 101 (b7 y0)] ∧ K r0 y0 H') panQE
def X7 (x0 : ByteArray) (H : Hp) (K : Int → Int → Hp → Prop) : Prop :=
 Ct pG 128 [(Value.string x0)] H [] (fun v H' Fo => ∃ (r0 : Int) (r1 : Int), v = (Value.tuple #[(Value.int .i32 r0), (vi r1)]) ∧ Fo = [] ∧ K r0 r1 H') noQE
def a5W (x0 : ByteArray) (H : Hp) (K : Int → Int → Hp → Prop) : Prop :=
 Ct pG 97 [(Value.string x0)] H [] (fun v H' Fo => ∃ (r0 : Int) (r1 : Int), v = (Value.tuple #[(vi r0), (vi r1)]) ∧ Fo = [] ∧ K r0 r1 H') noQE
def S1 (x0 : d7) (c : (List b5)) (H : Hp) (K : ByteArray → Hp → Prop) : Prop :=
 ∀ (g0 : Nat), ∀ (a : Sl) (b : Frag), RowL 103 5 f9 a c b → Ct pG 135 [(Value.pointer (some ⟨g0, 0, none⟩))] H [bx g0 155 (t6 x0 a), b] (fun v H' Fo => ∃ (r0 : ByteArray), v = (Value.string r0) ∧ Fo = [bx g0 155 (t6 x0 a), b] ∧ K r0 H') noQE
def a1V (x0 : ByteArray) (x1 : ByteArray) (H : Hp) (K : Bool → Hp → Prop) : Prop :=
 Ct pG 153 [(Value.string x0), (Value.string x1)] H [] (fun v H' Fo => ∃ (r0 : Bool), v = (vB r0) ∧ Fo = [] ∧ K r0 H') noQE
def a2s (x0 : ByteArray) (x1 : ByteArray) (H : Hp) (K : Bool → Hp → Prop) : Prop :=
 Ct pG 134 [(Value.string x0), (Value.string x1)] H [] (fun v H' Fo => ∃ (r0 : Bool), v = (vB r0) ∧ Fo = [] ∧ K r0 H') noQE
def a0w (x0 : Int) (H : Hp) (K : Bool → Hp → Prop) : Prop :=
 Ct pG 136 [(Value.int .i32 x0)] H [] (fun v H' Fo => ∃ (r0 : Bool), v = (vB r0) ∧ Fo = [] ∧ K r0 H') noQE
def B3 (x0 : d7) (f : (List b5)) (H : Hp) (K : d7 → (List b5) → Hp → Prop) : Prop :=
 ∀ (g0 : Nat), ∀ (a : Sl) (b : Frag), RowL 103 5 f9 a f b → Ct pG 152 [(Value.pointer (some ⟨g0, 0, none⟩))] H [bx g0 155 (t6 x0 a), b] (fun v H' Fo => ∃ (y0 : d7) (c : (List b5)) (d : Sl) (e : Frag), v = (Value.tuple #[]) ∧ Fo = [bx g0 155 (t6 y0 d), e] ∧ RowL 103 5 f9 d c e ∧ K y0 c H') noQE
def z7 (x0 : d7) (c : (List b5)) (H : Hp) (K : Int → Bool → Hp → Prop) : Prop :=
 ∀ (g0 : Nat), ∀ (a : Sl) (b : Frag), RowL 103 5 f9 a c b → Ct pG 100 [(Value.pointer (some ⟨g0, 0, none⟩))] H [bx g0 155 (t6 x0 a), b] (fun v H' Fo => ∃ (r0 : Int) (r1 : Bool), v = (Value.tuple #[(Value.int .i32 r0), (vB r1)]) ∧ Fo = [bx g0 155 (t6 x0 a), b] ∧ K r0 r1 H') noQE
def K9 (x0 : d7) (f : (List b5)) (H : Hp) (K : ByteArray → d7 → (List b5) → Hp → Prop) : Prop :=
 ∀ (g0 : Nat), ∀ (a : Sl) (b : Frag), RowL 103 5 f9 a f b → Ct pG 133 [(Value.pointer (some ⟨g0, 0, none⟩)), (fC 136)] H [bx g0 155 (t6 x0 a), b] (fun v H' Fo => ∃ (r0 : ByteArray) (y0 : d7) (c : (List b5)) (d : Sl) (e : Frag), v = (Value.string r0) ∧ Fo = [bx g0 155 (t6 y0 d), e] ∧ RowL 103 5 f9 d c e ∧ K r0 y0 c H') noQE
def a0x (x0 : Int) (H : Hp) (K : Bool → Hp → Prop) : Prop :=
 Ct pG 131 [(Value.int .i32 x0)] H [] (fun v H' Fo => ∃ (r0 : Bool), v = (vB r0) ∧ Fo = [] ∧ K r0 H') noQE
def E2 (x0 : d7) (f : (List b5)) (H : Hp) (K : ByteArray → d7 → (List b5) → Hp → Prop) : Prop :=
 ∀ (g0 : Nat), ∀ (a : Sl) (b : Frag), RowL 103 5 f9 a f b → Ct pG 133 [(Value.pointer (some ⟨g0, 0, none⟩)), (fC 131)] H [bx g0 155 (t6 x0 a), b] (fun v H' Fo => ∃ (r0 : ByteArray) (y0 : d7) (c : (List b5)) (d : Sl) (e : Frag), v = (Value.string r0) ∧ Fo = [bx g0 155 (t6 y0 d), e] ∧ RowL 103 5 f9 d c e ∧ K r0 y0 c H') noQE
def Y1 (x0 : d7) (f : (List b5)) (H : Hp) (K : d7 → (List b5) → Hp → Prop) : Prop :=
 ∀ (g0 : Nat), ∀ (a : Sl) (b : Frag), RowL 103 5 f9 a f b → Ct pG 99 [(Value.pointer (some ⟨g0, 0, none⟩))] H [bx g0 155 (t6 x0 a), b] (fun v H' Fo => ∃ (y0 : d7) (c : (List b5)) (d : Sl) (e : Frag), v = (Value.tuple #[]) ∧ Fo = [bx g0 155 (t6 y0 d), e] ∧ RowL 103 5 f9 d c e ∧ K y0 c H') noQE
def a0Z (x0 : a8) (x1 : a0X) (H : Hp) (K : Int → a8 → Hp → Prop) : Prop :=
 ∀ (g0 : Nat), Ct pG 121 [(Value.pointer (some ⟨g0, 0, none⟩)), (Value.agg (U3 x1).toArray)] H [bx g0 101 (b7 x0)] (fun v H' Fo => ∃ (r0 : Int) (y0 : a8), v = (vi r0) ∧ Fo = [bx g0 101 (b7 y0)] ∧ K r0 y0 H') noQE
def P0 [PanQ] (x0 : a8) (x1 : Int) (H : Hp) (K : b9 → a8 → Hp → Prop) : Prop :=
 ∀ (g0 : Nat), Ct pG 122 [(Value.pointer (some ⟨g0, 0, none⟩)), (vi x1)] H [bx g0 101 (b7 x0)] (fun v H' Fo => ∃ (r0 : b9) (y0 : a8), v = (Value.agg (d9 r0).toArray) ∧ Fo = [bx g0 101 (b7 y0)] ∧ K r0 y0 H') panQE
def O3 (x0 : d7) (f : (List b5)) (H : Hp) (K : ByteArray → d7 → (List b5) → Hp → Prop) : Prop :=
 ∀ (g0 : Nat), ∀ (a : Sl) (b : Frag), RowL 103 5 f9 a f b → Ct pG 133 [(Value.pointer (some ⟨g0, 0, none⟩)), (fC 154)] H [bx g0 155 (t6 x0 a), b] (fun v H' Fo => ∃ (r0 : ByteArray) (y0 : d7) (c : (List b5)) (d : Sl) (e : Frag), v = (Value.string r0) ∧ Fo = [bx g0 155 (t6 y0 d), e] ∧ RowL 103 5 f9 d c e ∧ K r0 y0 c H') noQE
def a4o (x0 : d7) (f : (List b5)) (H : Hp) (K : b5 → Int → d7 → (List b5) → Hp → Prop) : Prop :=
 ∀ (g0 : Nat), ∀ (a : Sl) (b : Frag), RowL 103 5 f9 a f b → Ct pG 137 [(Value.pointer (some ⟨g0, 0, none⟩))] H [bx g0 155 (t6 x0 a), b] (fun v H' Fo => ∃ (r0 : b5) (r1 : Int) (y0 : d7) (c : (List b5)) (d : Sl) (e : Frag), v = (Value.tuple #[(Value.agg (f9 r0).toArray), (vi r1)]) ∧ Fo = [bx g0 155 (t6 y0 d), e] ∧ RowL 103 5 f9 d c e ∧ K r0 r1 y0 c H') noQE
def a0y (x0 : Int) (H : Hp) (K : Bool → Hp → Prop) : Prop :=
 Ct pG 157 [(Value.int .i32 x0)] H [] (fun v H' Fo => ∃ (r0 : Bool), v = (vB r0) ∧ Fo = [] ∧ K r0 H') noQE
def L0 (x0 : d7) (f : (List b5)) (H : Hp) (K : ByteArray → d7 → (List b5) → Hp → Prop) : Prop :=
 ∀ (g0 : Nat), ∀ (a : Sl) (b : Frag), RowL 103 5 f9 a f b → Ct pG 133 [(Value.pointer (some ⟨g0, 0, none⟩)), (fC 157)] H [bx g0 155 (t6 x0 a), b] (fun v H' Fo => ∃ (r0 : ByteArray) (y0 : d7) (c : (List b5)) (d : Sl) (e : Frag), v = (Value.string r0) ∧ Fo = [bx g0 155 (t6 y0 d), e] ∧ RowL 103 5 f9 d c e ∧ K r0 y0 c H') noQE
def a6z (x0 : ByteArray) (x1 : Int) (x2 : Int) (H : Hp) (K : Int → Value → Hp → Prop) : Prop :=
 Ct pG 158 [(Value.string x0), (vi x1), (vi x2)] H [] (fun v H' Fo => ∃ (r0 : Int) (r1 : Value), v = (Value.tuple #[(vi r0), r1]) ∧ Fo = [] ∧ K r0 r1 H') noQE
def a3U (x0 : d7) (f : (List b5)) (H : Hp) (K : b5 → Int → d7 → (List b5) → Hp → Prop) : Prop :=
 ∀ (g0 : Nat), ∀ (a : Sl) (b : Frag), RowL 103 5 f9 a f b → Ct pG 138 [(Value.pointer (some ⟨g0, 0, none⟩))] H [bx g0 155 (t6 x0 a), b] (fun v H' Fo => ∃ (r0 : b5) (r1 : Int) (y0 : d7) (c : (List b5)) (d : Sl) (e : Frag), v = (Value.tuple #[(Value.agg (f9 r0).toArray), (vi r1)]) ∧ Fo = [bx g0 155 (t6 y0 d), e] ∧ RowL 103 5 f9 d c e ∧ K r0 r1 y0 c H') noQE
def a4p (x0 : d7) (f : (List b5)) (H : Hp) (K : b5 → Int → d7 → (List b5) → Hp → Prop) : Prop :=
 ∀ (g0 : Nat), ∀ (a : Sl) (b : Frag), RowL 103 5 f9 a f b → Ct pG 139 [(Value.pointer (some ⟨g0, 0, none⟩))] H [bx g0 155 (t6 x0 a), b] (fun v H' Fo => ∃ (r0 : b5) (r1 : Int) (y0 : d7) (c : (List b5)) (d : Sl) (e : Frag), v = (Value.tuple #[(Value.agg (f9 r0).toArray), (vi r1)]) ∧ Fo = [bx g0 155 (t6 y0 d), e] ∧ RowL 103 5 f9 d c e ∧ K r0 r1 y0 c H') noQE
def a6A (H : Hp) (K : b5 → Int → Hp → Prop) : Prop :=
 Ct pG 140 [] H [] (fun v H' Fo => ∃ (r0 : b5) (r1 : Int), v = (Value.tuple #[(Value.agg (f9 r0).toArray), (vi r1)]) ∧ Fo = [] ∧ K r0 r1 H') noQE
def a2y (x0 : N0) (H : Hp) (K : Bool → Hp → Prop) : Prop :=
 Ct pG 205 [(Value.agg (d9 x0.u4).toArray)] H [] (fun v H' Fo => ∃ (r0 : Bool), v = (vB r0) ∧ Fo = [] ∧ K r0 H') noQE
def a5J (x0 : b9) (H : Hp) (K : d8 → Hp → Prop) : Prop :=
 Ct pG 208 [(Value.agg (d9 x0).toArray)] H [] (fun v H' Fo => ∃ (r0 : d8), v = (H7 r0) ∧ Fo = [] ∧ K r0 H') noQE
def B4 (x0 : Sl) (H : Hp) (K : Sl → Hp → Prop) : Prop :=
 Ct pG 207 [(vs x0), (fC 208)] H [] (fun v H' Fo => ∃ (r0 : Sl), v = (vs r0) ∧ Fo = [] ∧ K r0 H') noQE
def a4q (x0 : N0) (H : Hp) (K : Sl → Hp → Prop) : Prop :=
 Ct pG 206 [(Value.agg (d9 x0.u4).toArray)] H [] (fun v H' Fo => ∃ (r0 : Sl), v = (vs r0) ∧ Fo = [] ∧ K r0 H') noQE
def a2z (x0 : S9) (H : Hp) (K : Bool → Hp → Prop) : Prop :=
 Ct pG 209 [(Value.agg (g8 x0.r9).toArray)] H [] (fun v H' Fo => ∃ (r0 : Bool), v = (vB r0) ∧ Fo = [] ∧ K r0 H') noQE
def a5K (x0 : f8) (H : Hp) (K : d8 → Hp → Prop) : Prop :=
 Ct pG 212 [(Value.agg (g8 x0).toArray)] H [] (fun v H' Fo => ∃ (r0 : d8), v = (H7 r0) ∧ Fo = [] ∧ K r0 H') noQE
def E0 (x0 : Sl) (H : Hp) (K : Sl → Hp → Prop) : Prop :=
 Ct pG 211 [(vs x0), (fC 212)] H [] (fun v H' Fo => ∃ (r0 : Sl), v = (vs r0) ∧ Fo = [] ∧ K r0 H') noQE
def a4r (x0 : S9) (H : Hp) (K : Sl → Hp → Prop) : Prop :=
 Ct pG 210 [(Value.agg (g8 x0.r9).toArray)] H [] (fun v H' Fo => ∃ (r0 : Sl), v = (vs r0) ∧ Fo = [] ∧ K r0 H') noQE
def a4U (x0 : W0) (H : Hp) (K : Bool → Hp → Prop) : Prop :=
 Ct pG 213 [(Value.agg (y3 x0.X0).toArray)] H [] (fun v H' Fo => ∃ (r0 : Bool), v = (vB r0) ∧ Fo = [] ∧ K r0 H') noQE
def a4s (x0 : W0) (H : Hp) (K : Sl → Hp → Prop) : Prop :=
 Ct pG 214 [(Value.agg (y3 x0.X0).toArray)] H [] (fun v H' Fo => ∃ (r0 : Sl), v = (vs r0) ∧ Fo = [] ∧ K r0 H') noQE
def a2A (x0 : T0) (H : Hp) (K : Bool → Hp → Prop) : Prop :=
 Ct pG 215 [(Value.agg (l8 x0.i8).toArray)] H [] (fun v H' Fo => ∃ (r0 : Bool), v = (vB r0) ∧ Fo = [] ∧ K r0 H') noQE
def a4t (x0 : T0) (H : Hp) (K : Sl → Hp → Prop) : Prop :=
 Ct pG 216 [(Value.agg (l8 x0.i8).toArray)] H [] (fun v H' Fo => ∃ (r0 : Sl), v = (vs r0) ∧ Fo = [] ∧ K r0 H') noQE
def a7t (x0 : ByteArray) (x1 : Int) (H : Hp) (K : b8 → Hp → Prop) : Prop :=
 Ct pG 98 [(Value.string x0), (vi x1)] H [] (fun v H' Fo => ∃ (r0 : b8), v = (Value.agg (j8 r0).toArray) ∧ Fo = [] ∧ K r0 H') noQE
def a3F (x : d8) (H : Hp) (K : Bool → Hp → Prop) : Prop := match x with
 | .nil => False
 | .G9 y => a2y y H K
 | .N2 y => a2z y H K
 | .M3 y => a4U y H K
 | .J0 y => a2A y H K
def a3o (x : d8) (H : Hp) (K : Sl → Hp → Prop) : Prop := match x with
 | .nil => False
 | .G9 y => a4q y H K
 | .N2 y => a4r y H K
 | .M3 y => a4s y H K
 | .J0 y => a4t y H K
theorem a8q {E : Pan} {w0 w : World} {ps : Nat → Prop} {H0 H : Hp} {Fr : List Frag} {K : RT} {Kc : Bool → Hp → Prop} {x : d8} (I : Inv w0 ps H0 H Fr w) (h : a3F x H Kc) (hq : ∀ (r0 : Bool) (H' : Hp) (w' : World), Inv w0 ps H0 H' Fr w' → Hle H H' → (∀ i, i < w.heap.size → ¬ inF [] i → w'.heap[i]? = w.heap[i]?) → Kc r0 H' → K (vB r0) w') : oP E (xInvoke (H7 x) "gnomon/tree.form" []) w K := by
 cases x with
 | nil => exact h.elim
 | G9 y => exact a0s (f := 205) (args := [(Value.agg (d9 y.u4).toArray)].toArray) (by kernel_rfl) (a3i (Fi := []) I h (fun v H' Fo w' I' l hk hq' => by obtain ⟨r0, rfl, rfl, hK⟩ := hq'; exact hq r0 H' w' I' l hk hK) (fun _ _ _ _ _ q => q.elim))
 | N2 y => exact a0s (f := 209) (args := [(Value.agg (g8 y.r9).toArray)].toArray) (by kernel_rfl) (a3i (Fi := []) I h (fun v H' Fo w' I' l hk hq' => by obtain ⟨r0, rfl, rfl, hK⟩ := hq'; exact hq r0 H' w' I' l hk hK) (fun _ _ _ _ _ q => q.elim))
 | M3 y => exact a0s (f := 213) (args := [(Value.agg (y3 y.X0).toArray)].toArray) (by kernel_rfl) (a3i (Fi := []) I h (fun v H' Fo w' I' l hk hq' => by obtain ⟨r0, rfl, rfl, hK⟩ := hq'; exact hq r0 H' w' I' l hk hK) (fun _ _ _ _ _ q => q.elim))
 | J0 y => exact a0s (f := 215) (args := [(Value.agg (l8 y.i8).toArray)].toArray) (by kernel_rfl) (a3i (Fi := []) I h (fun v H' Fo w' I' l hk hq' => by obtain ⟨r0, rfl, rfl, hK⟩ := hq'; exact hq r0 H' w' I' l hk hK) (fun _ _ _ _ _ q => q.elim))
theorem a8b {E : Pan} {w0 w : World} {ps : Nat → Prop} {H0 H : Hp} {Fr : List Frag} {K : RT} {Kc : Sl → Hp → Prop} {x : d8} (I : Inv w0 ps H0 H Fr w) (h : a3o x H Kc) (hq : ∀ (r0 : Sl) (H' : Hp) (w' : World), Inv w0 ps H0 H' Fr w' → Hle H H' → (∀ i, i < w.heap.size → ¬ inF [] i → w'.heap[i]? = w.heap[i]?) → Kc r0 H' → K (vs r0) w') : oP E (xInvoke (H7 x) "gnomon/tree.parts" []) w K := by
 cases x with
 | nil => exact h.elim
 | G9 y => exact a0s (f := 206) (args := [(Value.agg (d9 y.u4).toArray)].toArray) (by kernel_rfl) (a3i (Fi := []) I h (fun v H' Fo w' I' l hk hq' => by obtain ⟨r0, rfl, rfl, hK⟩ := hq'; exact hq r0 H' w' I' l hk hK) (fun _ _ _ _ _ q => q.elim))
 | N2 y => exact a0s (f := 210) (args := [(Value.agg (g8 y.r9).toArray)].toArray) (by kernel_rfl) (a3i (Fi := []) I h (fun v H' Fo w' I' l hk hq' => by obtain ⟨r0, rfl, rfl, hK⟩ := hq'; exact hq r0 H' w' I' l hk hK) (fun _ _ _ _ _ q => q.elim))
 | M3 y => exact a0s (f := 214) (args := [(Value.agg (y3 y.X0).toArray)].toArray) (by kernel_rfl) (a3i (Fi := []) I h (fun v H' Fo w' I' l hk hq' => by obtain ⟨r0, rfl, rfl, hK⟩ := hq'; exact hq r0 H' w' I' l hk hK) (fun _ _ _ _ _ q => q.elim))
 | J0 y => exact a0s (f := 216) (args := [(Value.agg (l8 y.i8).toArray)].toArray) (by kernel_rfl) (a3i (Fi := []) I h (fun v H' Fo w' I' l hk hq' => by obtain ⟨r0, rfl, rfl, hK⟩ := hq'; exact hq r0 H' w' I' l hk hK) (fun _ _ _ _ _ q => q.elim))
end Go.Proofs.YthklmeihgmcljaaGreatDoor
