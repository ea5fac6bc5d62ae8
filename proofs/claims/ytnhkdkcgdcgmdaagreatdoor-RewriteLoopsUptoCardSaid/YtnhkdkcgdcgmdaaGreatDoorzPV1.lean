/- Contracts of the program's functions; printed by lift.py off the code. -/
import Derived.Test.YtnhkdkcgdcgmdaaGreatDoorzPU1
import Derived.Test.YtnhkdkcgdcgmdaaGreatDoorzPG1a
namespace Go.Proofs.YtnhkdkcgdcgmdaaGreatDoor
open Go.RowKit
set_option maxRecDepth 100000
set_option maxHeartbeats 2000000
def T5 (x0 : Int) (H : Hp) (K : b6 → Hp → Prop) : Prop :=
 Ct Tryz.prog 22 [(vi x0)] H [] (fun v H' Fo => ∃ (r0 : b6), v = (Value.agg (b7 r0).toArray) ∧ Fo = [] ∧ K r0 H') noQE
def a3z (x0 : d9) (H : Hp) (K : ByteArray → Bool → Hp → Prop) : Prop :=
 Ct Tryz.prog 143 [(C3 x0)] H [] (fun v H' Fo => ∃ (r0 : ByteArray) (r1 : Bool), v = (Value.tuple #[(Value.string r0), (vB r1)]) ∧ Fo = [] ∧ K r0 r1 H') noQE
def O4 (x0 : Int) (x1 : Int) (x2 : Int) (H : Hp) (K : Bool → Hp → Prop) : Prop :=
 ∀ (g2 : Nat), Ct Tryz.prog 170 [(Value.int .i32 x0), (Value.int .i32 x1), (Value.pointer (some ⟨g2, 0, none⟩))] H [bx g2 21 [(Value.int .i32 x2)]] (fun v H' Fo => ∃ (r0 : Bool), v = (vB r0) ∧ Fo = [bx g2 21 [(Value.int .i32 x2)]] ∧ K r0 H') noQE
def a4F (x0 : Int) (H : Hp) (K : Int → Hp → Prop) : Prop :=
 Ct Tryz.prog 166 [(Value.int .i32 x0)] H [] (fun v H' Fo => ∃ (r0 : Int), v = (vi r0) ∧ Fo = [] ∧ K r0 H') noQE
def a6Y (x0 : Int) (H : Hp) (K : Bool → Hp → Prop) : Prop :=
 Ct Tryz.prog 165 [(Value.int .i32 x0)] H [] (fun v H' Fo => ∃ (r0 : Bool), v = (vB r0) ∧ Fo = [] ∧ K r0 H') noQE
def a6S (x0 : ByteArray) (H : Hp) (K : Bool → Hp → Prop) : Prop :=
 Ct Tryz.prog 162 [(Value.string x0)] H [] (fun v H' Fo => ∃ (r0 : Bool), v = (vB r0) ∧ Fo = [] ∧ K r0 H') noQE
def a0P (x0 : ByteArray) (H : Hp) (K : Int → Hp → Prop) : Prop :=
 Ct Tryz.prog 169 [(Value.string x0)] H [] (fun v H' Fo => ∃ (r0 : Int), v = (vi r0) ∧ Fo = [] ∧ K r0 H') noQE
def a5y (x0 : ByteArray) (H : Hp) (K : Bool → Hp → Prop) : Prop :=
 Ct Tryz.prog 163 [(Value.string x0)] H [] (fun v H' Fo => ∃ (r0 : Bool), v = (vB r0) ∧ Fo = [] ∧ K r0 H') noQE
def a3X (x0 : ByteArray) (H : Hp) (K : Bool → Hp → Prop) : Prop :=
 Ct Tryz.prog 164 [(Value.string x0)] H [] (fun v H' Fo => ∃ (r0 : Bool), v = (vB r0) ∧ Fo = [] ∧ K r0 H') noQE
def a5z (x0 : ByteArray) (H : Hp) (K : Bool → Hp → Prop) : Prop :=
 Ct Tryz.prog 144 [(Value.string x0)] H [] (fun v H' Fo => ∃ (r0 : Bool), v = (vB r0) ∧ Fo = [] ∧ K r0 H') noQE
def a2E (x0 : (List ByteArray)) (x1 : ByteArray) (H : Hp) (K : Int → Hp → Prop) : Prop :=
 ∀ (sx0 : Sl) (Fx0 : Frag), RowL 9 1 M0 sx0 x0 Fx0 → Ct Tryz.prog 167 [(vs sx0), (Value.string x1)] H [Fx0] (fun v H' Fo => ∃ (r0 : Int), v = (vi r0) ∧ Fo = [Fx0] ∧ K r0 H') noQE
def Q6 (x0 : (List ByteArray)) (x1 : ByteArray) (H : Hp) (K : Bool → Hp → Prop) : Prop :=
 ∀ (sx0 : Sl) (Fx0 : Frag), RowL 9 1 M0 sx0 x0 Fx0 → Ct Tryz.prog 145 [(vs sx0), (Value.string x1)] H [Fx0] (fun v H' Fo => ∃ (r0 : Bool), v = (vB r0) ∧ Fo = [Fx0] ∧ K r0 H') noQE
def a3N (x0 : j9) (a0Q : (List ByteArray)) (x1 : d9) (x2 : Int) (H : Hp) (K : Bool → j9 → (List ByteArray) → Hp → Prop) : Prop :=
 ∀ (g0 : Nat), ∀ (a0r : Sl) (a5c : Frag), RowL 9 1 M0 a0r a0Q a5c → Ct Tryz.prog 111 [(Value.pointer (some ⟨g0, 0, none⟩)), (C3 x1), (vi x2)] H [bx g0 101 [(vi x0.fnodes), (vi x0.fdepth), (vi x0.fe), (vB x0.fform), (vB x0.fnamed), (vs a0r)], a5c] (fun v H' Fo => ∃ (r0 : Bool) (y0 : j9) (a8J : (List ByteArray)) (a6p : Sl) (a6q : Frag), v = (vB r0) ∧ Fo = [bx g0 101 [(vi y0.fnodes), (vi y0.fdepth), (vi y0.fe), (vB y0.fform), (vB y0.fnamed), (vs a6p)], a6q] ∧ RowL 9 1 M0 a6p a8J a6q ∧ K r0 y0 a8J H') noQE
def a0z (x0 : Sl) (x1 : Int) (x2 : j9) (b2Q : (List ByteArray)) (H : Hp) (K : Bool → j9 → (List ByteArray) → Hp → Prop) : Prop :=
 ∀ (g2 g2b g3 : Nat), ∀ (b4q : Sl) (b4r : Frag), RowL 9 1 M0 b4q b2Q b4r → Ct Tryz.prog 110 [(vs x0), (vi x1), (Value.pointer (some ⟨g2, 0, none⟩)), (Value.pointer (some ⟨g3, 0, none⟩))] H [bx g2 102 [(Value.pointer (some ⟨g2b, 0, none⟩))], bx g2b 101 [(vi x2.fnodes), (vi x2.fdepth), (vi x2.fe), (vB x2.fform), (vB x2.fnamed), (vs b4q)], b4r, bx g3 170 [(Value.func (.func 110) #[] #[(Value.pointer (some ⟨g2, 0, none⟩)), (Value.pointer (some ⟨g3, 0, none⟩))])]] (fun v H' Fo => ∃ (r0 : Bool) (y0 : j9) (a8J : (List ByteArray)) (a6p : Sl) (a6q : Frag), v = (vB r0) ∧ Fo = [bx g2 102 [(Value.pointer (some ⟨g2b, 0, none⟩))], bx g2b 101 [(vi y0.fnodes), (vi y0.fdepth), (vi y0.fe), (vB y0.fform), (vB y0.fnamed), (vs a6p)], a6q, bx g3 170 [(Value.func (.func 110) #[] #[(Value.pointer (some ⟨g2, 0, none⟩)), (Value.pointer (some ⟨g3, 0, none⟩))])]] ∧ RowL 9 1 M0 a6p a8J a6q ∧ K r0 y0 a8J H') noQE
def a1H (x0 : Sl) (H : Hp) (K : j9 → Hp → Prop) : Prop :=
 Ct Tryz.prog 65 [(vs x0)] H [] (fun v H' Fo => ∃ (r0 : j9) (gr0 : Nat), v = (Value.pointer (some ⟨gr0, 0, none⟩)) ∧ Fo = [bx gr0 101 (a7T r0)] ∧ K r0 H') noQE
def a7t (x0 : b6) (H : Hp) (K : Int → Hp → Prop) : Prop :=
 Ct Tryz.prog 39 [(Value.agg (b7 x0).toArray)] H [] (fun v H' Fo => ∃ (r0 : Int), v = (vi r0) ∧ Fo = [] ∧ K r0 H') noQE
def P5 (x0 : b6) (H : Hp) (K : Int → Bool → Hp → Prop) : Prop :=
 Ct Tryz.prog 67 [(Value.agg (b7 x0).toArray)] H [] (fun v H' Fo => ∃ (r0 : Int) (r1 : Bool), v = (Value.tuple #[(vi r0), (vB r1)]) ∧ Fo = [] ∧ K r0 r1 H') noQE
def X1 (x0 : b6) (x1 : Int) (H : Hp) (K : Bool → Hp → Prop) : Prop :=
 Ct Tryz.prog 70 [(Value.agg (b7 x0).toArray), (vi x1)] H [] (fun v H' Fo => ∃ (r0 : Bool), v = (vB r0) ∧ Fo = [] ∧ K r0 H') noQE
def D3 (x0 : Sl) (H : Hp) (K : Sl → Hp → Prop) : Prop :=
 Ct Tryz.prog 66 [(vs x0), (fC 40)] H [] (fun v H' Fo => ∃ (r0 : Sl), v = (vs r0) ∧ Fo = [] ∧ K r0 H') noQE
def a3f (x0 : Int) (H : Hp) (K : b6 → Hp → Prop) : Prop :=
 Ct Tryz.prog 68 [(vi x0)] H [] (fun v H' Fo => ∃ (r0 : b6), v = (Value.agg (b7 r0).toArray) ∧ Fo = [] ∧ K r0 H') noQE
def a4A (x0 : Int) (x1 : Int) (H : Hp) (K : Int → Int → Hp → Prop) : Prop :=
 Ct Tryz.prog 114 [(vi x0), (vi x1)] H [] (fun v H' Fo => ∃ (r0 : Int) (r1 : Int), v = (Value.tuple #[(vi r0), (vi r1)]) ∧ Fo = [] ∧ K r0 r1 H') noQE
def a6r (x0 : Int) (H : Hp) (K : Int → Int → Hp → Prop) : Prop :=
 Ct Tryz.prog 112 [(vi x0)] H [] (fun v H' Fo => ∃ (r0 : Int) (r1 : Int), v = (Value.tuple #[(vi r0), (vi r1)]) ∧ Fo = [] ∧ K r0 r1 H') noQE
def a6s (x0 : Int) (x1 : Int) (H : Hp) (K : Int → Int → Hp → Prop) : Prop :=
 Ct Tryz.prog 113 [(vi x0), (vi x1)] H [] (fun v H' Fo => ∃ (r0 : Int) (r1 : Int), v = (Value.tuple #[(vi r0), (vi r1)]) ∧ Fo = [] ∧ K r0 r1 H') noQE
def a5A (x0 : Int) (H : Hp) (K : Int → Hp → Prop) : Prop :=
 Ct Tryz.prog 147 [(vi x0)] H [] (fun v H' Fo => ∃ (r0 : Int), v = (Value.int .u64 r0) ∧ Fo = [] ∧ K r0 H') noQE
def a8l (x0 : Int) (x1 : Int) (H : Hp) (K : Int → Int → Hp → Prop) : Prop :=
 Ct Tryz.prog 146 [(Value.int .u64 x0), (Value.int .u64 x1)] H [] (fun v H' Fo => ∃ (r0 : Int) (r1 : Int), v = (Value.tuple #[(Value.int .u64 r0), (Value.int .u64 r1)]) ∧ Fo = [] ∧ K r0 r1 H') noQE
def a6t (x0 : Int) (x1 : Int) (H : Hp) (K : Int → Int → Hp → Prop) : Prop :=
 Ct Tryz.prog 115 [(vi x0), (vi x1)] H [] (fun v H' Fo => ∃ (r0 : Int) (r1 : Int), v = (Value.tuple #[(vi r0), (vi r1)]) ∧ Fo = [] ∧ K r0 r1 H') noQE
def a4d (x0 : Int) (x1 : Int) (H : Hp) (K : Int → Hp → Prop) : Prop :=
 Ct Tryz.prog 148 [(vi x0), (vi x1)] H [] (fun v H' Fo => ∃ (r0 : Int), v = (vi r0) ∧ Fo = [] ∧ K r0 H') noQE
def a6u (x0 : Int) (x1 : Int) (H : Hp) (K : Int → Int → Hp → Prop) : Prop :=
 Ct Tryz.prog 116 [(vi x0), (vi x1)] H [] (fun v H' Fo => ∃ (r0 : Int) (r1 : Int), v = (Value.tuple #[(vi r0), (vi r1)]) ∧ Fo = [] ∧ K r0 r1 H') noQE
def a6v (x0 : Int) (x1 : Int) (H : Hp) (K : Int → Int → Hp → Prop) : Prop :=
 Ct Tryz.prog 117 [(vi x0), (vi x1)] H [] (fun v H' Fo => ∃ (r0 : Int) (r1 : Int), v = (Value.tuple #[(vi r0), (vi r1)]) ∧ Fo = [] ∧ K r0 r1 H') noQE
def a4e (x0 : b6) (H : Hp) (K : Int → Bool → Hp → Prop) : Prop :=
 Ct Tryz.prog 69 [(Value.agg (b7 x0).toArray)] H [] (fun v H' Fo => ∃ (r0 : Int) (r1 : Bool), v = (Value.tuple #[(vi r0), (vB r1)]) ∧ Fo = [] ∧ K r0 r1 H') noQE
def a3E (x0 : b6) (H : Hp) (K : b6 → Hp → Prop) : Prop :=
 Ct Tryz.prog 40 [(Value.agg (b7 x0).toArray)] H [] (fun v H' Fo => ∃ (r0 : b6), v = (Value.agg (b7 r0).toArray) ∧ Fo = [] ∧ K r0 H') noQE
def a5T (x0 : b6) (H : Hp) (K : b6 → Int → Hp → Prop) : Prop :=
 Ct Tryz.prog 21 [(Value.agg (b7 x0).toArray)] H [] (fun v H' Fo => ∃ (r0 : b6) (r1 : Int), v = (Value.tuple #[(Value.agg (b7 r0).toArray), (vi r1)]) ∧ Fo = [] ∧ K r0 r1 H') noQE
def a7u (x0 : b9) (H : Hp) (K : Int → Hp → Prop) : Prop :=
 Ct Tryz.prog 41 [(Value.agg (d5 x0).toArray)] H [] (fun v H' Fo => ∃ (r0 : Int), v = (vi r0) ∧ Fo = [] ∧ K r0 H') noQE
def L9 (x0 : Sl) (H : Hp) (K : Sl → Hp → Prop) : Prop :=
 Ct Tryz.prog 71 [(vs x0), (fC 42)] H [] (fun v H' Fo => ∃ (r0 : Sl), v = (vs r0) ∧ Fo = [] ∧ K r0 H') noQE
def a5U (H : Hp) (K : Hp → Prop) : Prop :=
 Ct Tryz.prog 118 [] H [] (fun v H' Fo => v = (Value.agg #[(fC 149), (fC 150), (fC 151), (fC 152), (fC 153), (fC 154), (fC 155)]) ∧ Fo = [] ∧ K H') noQE
def b9n (x0 : Int) (x1 : Int) (H : Hp) (K : Bool → Hp → Prop) : Prop :=
 Ct Tryz.prog 149 [(vi x0), (vi x1)] H [] (fun v H' Fo => ∃ (r0 : Bool), v = (vB r0) ∧ Fo = [] ∧ K r0 H') noQE
def a8e (x0 : Int) (x1 : Int) (H : Hp) (K : Bool → Hp → Prop) : Prop :=
 Ct Tryz.prog 150 [(vi x0), (vi x1)] H [] (fun v H' Fo => ∃ (r0 : Bool), v = (vB r0) ∧ Fo = [] ∧ K r0 H') noQE
def a8f (x0 : Int) (x1 : Int) (H : Hp) (K : Bool → Hp → Prop) : Prop :=
 Ct Tryz.prog 151 [(vi x0), (vi x1)] H [] (fun v H' Fo => ∃ (r0 : Bool), v = (vB r0) ∧ Fo = [] ∧ K r0 H') noQE
def a8g (x0 : Int) (x1 : Int) (H : Hp) (K : Bool → Hp → Prop) : Prop :=
 Ct Tryz.prog 152 [(vi x0), (vi x1)] H [] (fun v H' Fo => ∃ (r0 : Bool), v = (vB r0) ∧ Fo = [] ∧ K r0 H') noQE
def a8h (x0 : Int) (x1 : Int) (H : Hp) (K : Bool → Hp → Prop) : Prop :=
 Ct Tryz.prog 153 [(vi x0), (vi x1)] H [] (fun v H' Fo => ∃ (r0 : Bool), v = (vB r0) ∧ Fo = [] ∧ K r0 H') noQE
def a8i (x0 : Int) (x1 : Int) (H : Hp) (K : Bool → Hp → Prop) : Prop :=
 Ct Tryz.prog 154 [(vi x0), (vi x1)] H [] (fun v H' Fo => ∃ (r0 : Bool), v = (vB r0) ∧ Fo = [] ∧ K r0 H') noQE
def a8j (x0 : Int) (x1 : Int) (H : Hp) (K : Bool → Hp → Prop) : Prop :=
 Ct Tryz.prog 155 [(vi x0), (vi x1)] H [] (fun v H' Fo => ∃ (r0 : Bool), v = (vB r0) ∧ Fo = [] ∧ K r0 H') noQE
def a8K (x0 : Int) (x1 : Int) (x2 : Int) (H : Hp) (K : Bool → Hp → Prop) : Prop :=
 Ct Tryz.prog 73 [(vi x0), (vi x1), (vi x2)] H [] (fun v H' Fo => ∃ (r0 : Bool), v = (vB r0) ∧ Fo = [] ∧ K r0 H') noQE
def a3g (x0 : Bool) (H : Hp) (K : b9 → Hp → Prop) : Prop :=
 Ct Tryz.prog 72 [(vB x0)] H [] (fun v H' Fo => ∃ (r0 : b9), v = (Value.agg (d5 r0).toArray) ∧ Fo = [] ∧ K r0 H') noQE
def a2h (x0 : b9) (x1 : Int) (x2 : Int) (H : Hp) (K : b9 → Hp → Prop) : Prop :=
 Ct Tryz.prog 74 [(Value.agg (d5 x0).toArray), (vi x1), (vi x2)] H [] (fun v H' Fo => ∃ (r0 : b9), v = (Value.agg (d5 r0).toArray) ∧ Fo = [] ∧ K r0 H') noQE
def a3F (x0 : b9) (H : Hp) (K : b9 → Hp → Prop) : Prop :=
 Ct Tryz.prog 42 [(Value.agg (d5 x0).toArray)] H [] (fun v H' Fo => ∃ (r0 : b9), v = (Value.agg (d5 r0).toArray) ∧ Fo = [] ∧ K r0 H') noQE
def a5V (x0 : b9) (H : Hp) (K : b9 → Int → Hp → Prop) : Prop :=
 Ct Tryz.prog 23 [(Value.agg (d5 x0).toArray)] H [] (fun v H' Fo => ∃ (r0 : b9) (r1 : Int), v = (Value.tuple #[(Value.agg (d5 r0).toArray), (vi r1)]) ∧ Fo = [] ∧ K r0 r1 H') noQE
def a3O (H : Hp) (K : Bool → Hp → Prop) : Prop :=
 Ct Tryz.prog 8 [] H [] (fun v H' Fo => ∃ (r0 : Bool), v = (vB r0) ∧ Fo = [] ∧ K r0 H') noQE
def a9z (x0 : p5) (H : Hp) (K : d9 → Hp → Prop) : Prop :=
 Ct Tryz.prog 77 [(Value.agg (p8 x0).toArray)] H [] (fun v H' Fo => ∃ (r0 : d9), v = (C3 r0) ∧ Fo = [] ∧ K r0 H') noQE
def N3 (x0 : Sl) (H : Hp) (K : Sl → Hp → Prop) : Prop :=
 Ct Tryz.prog 76 [(vs x0), (fC 77)] H [] (fun v H' Fo => ∃ (r0 : Sl), v = (vs r0) ∧ Fo = [] ∧ K r0 H') noQE
def a9A (x0 : d7) (H : Hp) (K : d9 → Hp → Prop) : Prop :=
 Ct Tryz.prog 79 [(Value.agg (g7 x0).toArray)] H [] (fun v H' Fo => ∃ (r0 : d9), v = (C3 r0) ∧ Fo = [] ∧ K r0 H') noQE
def A0 (x0 : Sl) (H : Hp) (K : Sl → Hp → Prop) : Prop :=
 Ct Tryz.prog 78 [(vs x0), (fC 79)] H [] (fun v H' Fo => ∃ (r0 : Sl), v = (vs r0) ∧ Fo = [] ∧ K r0 H') noQE
def U8 (x1 : Int) (H : Hp) (K : (List d9) → Hp → Prop) : Prop :=
 Ct Tryz.prog 119 [(nS), (vi x1)] H [] (fun v H' Fo => ∃ (r0 : (List d9)) (sr0 : Sl) (Fr0 : Frag), v = (vs sr0) ∧ Fo = [Fr0] ∧ RowL 150 1 s8 sr0 r0 Fr0 ∧ K r0 H') noQE
def G4 (x0 : Sl) (H : Hp) (K : Sl → Hp → Prop) : Prop :=
 Ct Tryz.prog 75 [(vs x0)] H [] (fun v H' Fo => ∃ (r0 : Sl), v = (vs r0) ∧ Fo = [] ∧ K r0 H') noQE
def a8m (x0 : o9) (H : Hp) (K : j9 → Hp → Prop) : Prop :=
 Ct Tryz.prog 43 [(Value.agg (m9 x0).toArray)] H [] (fun v H' Fo => ∃ (r0 : j9) (gr0 : Nat), v = (Value.pointer (some ⟨gr0, 0, none⟩)) ∧ Fo = [bx gr0 101 (a7T r0)] ∧ K r0 H') noQE
def a2w (x0 : o9) (H : Hp) (K : Int → Hp → Prop) : Prop :=
 Ct Tryz.prog 24 [(Value.agg (m9 x0).toArray)] H [] (fun v H' Fo => ∃ (r0 : Int), v = (vi r0) ∧ Fo = [] ∧ K r0 H') noQE
def P6 (x0 : Sl) (x1 : Int) (H : Hp) (K : Sl → Hp → Prop) : Prop :=
 Ct Tryz.prog 26 [(vs x0), (vi x1)] H [] (fun v H' Fo => ∃ (r0 : Sl), v = (vs r0) ∧ Fo = [] ∧ K r0 H') noQE
def Q7 (x0 : Sl) (H : Hp) (K : Sl → Hp → Prop) : Prop :=
 Ct Tryz.prog 44 [(vs x0)] H [] (fun v H' Fo => ∃ (r0 : Sl), v = (vs r0) ∧ Fo = [] ∧ K r0 H') noQE
def a5q (x0 : b6) (H : Hp) (K : b6 → Hp → Prop) : Prop :=
 Ct Tryz.prog 81 [(Value.agg (b7 x0).toArray)] H [] (fun v H' Fo => ∃ (r0 : b6), v = (Value.agg (b7 r0).toArray) ∧ Fo = [] ∧ K r0 H') noQE
def y9 (x0 : Sl) (H : Hp) (K : Sl → Hp → Prop) : Prop :=
 Ct Tryz.prog 80 [(vs x0), (fC 81)] H [] (fun v H' Fo => ∃ (r0 : Sl), v = (vs r0) ∧ Fo = [] ∧ K r0 H') noQE
def a5r (x0 : b9) (H : Hp) (K : b9 → Hp → Prop) : Prop :=
 Ct Tryz.prog 83 [(Value.agg (d5 x0).toArray)] H [] (fun v H' Fo => ∃ (r0 : b9), v = (Value.agg (d5 r0).toArray) ∧ Fo = [] ∧ K r0 H') noQE
def D7 (x0 : Sl) (H : Hp) (K : Sl → Hp → Prop) : Prop :=
 Ct Tryz.prog 82 [(vs x0), (fC 83)] H [] (fun v H' Fo => ∃ (r0 : Sl), v = (vs r0) ∧ Fo = [] ∧ K r0 H') noQE
def a5s (x0 : d7) (H : Hp) (K : d7 → Hp → Prop) : Prop :=
 Ct Tryz.prog 46 [(Value.agg (g7 x0).toArray)] H [] (fun v H' Fo => ∃ (r0 : d7), v = (Value.agg (g7 r0).toArray) ∧ Fo = [] ∧ K r0 H') noQE
def z6 (x0 : Sl) (H : Hp) (K : Sl → Hp → Prop) : Prop :=
 Ct Tryz.prog 45 [(vs x0), (fC 46)] H [] (fun v H' Fo => ∃ (r0 : Sl), v = (vs r0) ∧ Fo = [] ∧ K r0 H') noQE
def a7v (x0 : o9) (H : Hp) (K : o9 → Int → Hp → Prop) : Prop :=
 Ct Tryz.prog 25 [(Value.agg (m9 x0).toArray)] H [] (fun v H' Fo => ∃ (r0 : o9) (r1 : Int), v = (Value.tuple #[(Value.agg (m9 r0).toArray), (vi r1)]) ∧ Fo = [] ∧ K r0 r1 H') noQE
def a4N (x0 : o9) (x1 : Int) (H : Hp) (K : o9 → Int → Hp → Prop) : Prop :=
 Ct Tryz.prog 9 [(Value.agg (m9 x0).toArray), (vi x1)] H [] (fun v H' Fo => ∃ (r0 : o9) (r1 : Int), v = (Value.tuple #[(Value.agg (m9 r0).toArray), (vi r1)]) ∧ Fo = [] ∧ K r0 r1 H') noQE
def a4B (x0 : o9) (x1 : Sl) (x2 : Int) (H : Hp) (K : y8 → Int → Hp → Prop) : Prop :=
 Ct Tryz.prog 16 [(Value.agg (m9 x0).toArray), (vs x1), (vi x2)] H [] (fun v H' Fo => ∃ (r0 : y8) (r1 : Int), v = (Value.tuple #[(Value.agg (m8 r0).toArray), (vi r1)]) ∧ Fo = [] ∧ K r0 r1 H') noQE
def a0Y (x0 : Sl) (x1 : Sl) (H : Hp) (K : Bool → Hp → Prop) : Prop :=
 Ct Tryz.prog 19 [(vs x0), (vs x1)] H [] (fun v H' Fo => ∃ (r0 : Bool), v = (vB r0) ∧ Fo = [] ∧ K r0 H') noQE
def a0s (x0 : y8) (x1 : y8) (H : Hp) (K : Bool → Hp → Prop) : Prop :=
 Ct Tryz.prog 18 [(Value.agg (m8 x0).toArray), (Value.agg (m8 x1).toArray)] H [] (fun v H' Fo => ∃ (r0 : Bool), v = (vB r0) ∧ Fo = [] ∧ K r0 H') noQE
def a0A (x0 : o9) (x1 : Int) (x2 : Sl) (x3 : Int) (H : Hp) (K : Bool → Hp → Prop) : Prop :=
 Ct Tryz.prog 6 [(Value.agg (m9 x0).toArray), (vi x1), (vs x2), (vi x3)] H [] (fun v H' Fo => ∃ (r0 : Bool), v = (vB r0) ∧ Fo = [] ∧ K r0 H') noQE
def a8t (x0 : Sl) (H : Hp) (K : (Option Nat) → ByteArray → Int → Hp → Prop) : Prop :=
 Ct Tryz.prog 57 [(vs x0)] H [] (fun v H' Fo => ∃ (r0 : (Option Nat)) (r1 : ByteArray) (r2 : Int), v = (Value.tuple #[(Value.map r0), (Value.string r1), (vi r2)]) ∧ Fo = [] ∧ K r0 r1 r2 H') noQE
def X3 (x0 : j8) (S4 : (List g8)) (x1 : b6) (H : Hp) (K : j8 → (List g8) → Hp → Prop) : Prop :=
 ∀ (g0 : Nat), ∀ (W3 : Sl) (a0t : Frag), RowL 127 2 u7 W3 S4 a0t → Ct Tryz.prog 102 [(Value.pointer (some ⟨g0, 0, none⟩)), (Value.agg (b7 x1).toArray)] H [bx g0 125 [(vs W3)], a0t] (fun v H' Fo => ∃ (y0 : j8) (a4C : (List g8)) (a1I : Sl) (a1J : Frag), v = (Value.tuple #[]) ∧ Fo = [bx g0 125 [(vs a1I)], a1J] ∧ RowL 127 2 u7 a1I a4C a1J ∧ K y0 a4C H') noQE
def a0Z (x0 : j8) (S4 : (List g8)) (x1 : b9) (H : Hp) (K : j8 → (List g8) → Hp → Prop) : Prop :=
 ∀ (g0 : Nat), ∀ (W3 : Sl) (a0t : Frag), RowL 127 2 u7 W3 S4 a0t → Ct Tryz.prog 101 [(Value.pointer (some ⟨g0, 0, none⟩)), (Value.agg (d5 x1).toArray)] H [bx g0 125 [(vs W3)], a0t] (fun v H' Fo => ∃ (y0 : j8) (a4C : (List g8)) (a1I : Sl) (a1J : Frag), v = (Value.tuple #[]) ∧ Fo = [bx g0 125 [(vs a1I)], a1J] ∧ RowL 127 2 u7 a1I a4C a1J ∧ K y0 a4C H') noQE
def W0 (x0 : j8) (S4 : (List g8)) (x1 : Sl) (H : Hp) (K : j8 → (List g8) → Hp → Prop) : Prop :=
 ∀ (g0 : Nat), ∀ (W3 : Sl) (a0t : Frag), RowL 127 2 u7 W3 S4 a0t → Ct Tryz.prog 58 [(Value.pointer (some ⟨g0, 0, none⟩)), (vs x1)] H [bx g0 125 [(vs W3)], a0t] (fun v H' Fo => ∃ (y0 : j8) (a4C : (List g8)) (a1I : Sl) (a1J : Frag), v = (Value.tuple #[]) ∧ Fo = [bx g0 125 [(vs a1I)], a1J] ∧ RowL 127 2 u7 a1I a4C a1J ∧ K y0 a4C H') noQE
def a9X (x0 : o9) (H : Hp) (K : ByteArray → Int → Hp → Prop) : Prop :=
 Ct Tryz.prog 33 [(Value.agg (m9 x0).toArray)] H [] (fun v H' Fo => ∃ (r0 : ByteArray) (r1 : Int), v = (Value.tuple #[(Value.string r0), (vi r1)]) ∧ Fo = [] ∧ K r0 r1 H') noQE
def b1e (x0 : p5) (H : Hp) (K : Int → Hp → Prop) : Prop :=
 Ct Tryz.prog 100 [(Value.agg (p8 x0).toArray)] H [] (fun v H' Fo => ∃ (r0 : Int), v = (vi r0) ∧ Fo = [] ∧ K r0 H') noQE
def a9h (x0 : b6) (H : Hp) (K : Int → Bool → Hp → Prop) : Prop :=
 Ct Tryz.prog 158 [(Value.agg (b7 x0).toArray)] H [] (fun v H' Fo => ∃ (r0 : Int) (r1 : Bool), v = (Value.tuple #[(vi r0), (vB r1)]) ∧ Fo = [] ∧ K r0 r1 H') noQE
def a4O (x0 : L5) (H : Hp) (K : Bool → Hp → Prop) : Prop :=
 Ct Tryz.prog 187 [(Value.agg (b7 x0.r6).toArray)] H [] (fun v H' Fo => ∃ (r0 : Bool), v = (vB r0) ∧ Fo = [] ∧ K r0 H') noQE
def a9B (x0 : b6) (H : Hp) (K : d9 → Hp → Prop) : Prop :=
 Ct Tryz.prog 190 [(Value.agg (b7 x0).toArray)] H [] (fun v H' Fo => ∃ (r0 : d9), v = (C3 r0) ∧ Fo = [] ∧ K r0 H') noQE
def A4 (x0 : Sl) (H : Hp) (K : Sl → Hp → Prop) : Prop :=
 Ct Tryz.prog 189 [(vs x0), (fC 190)] H [] (fun v H' Fo => ∃ (r0 : Sl), v = (vs r0) ∧ Fo = [] ∧ K r0 H') noQE
def a7w (x0 : L5) (H : Hp) (K : Sl → Hp → Prop) : Prop :=
 Ct Tryz.prog 188 [(Value.agg (b7 x0.r6).toArray)] H [] (fun v H' Fo => ∃ (r0 : Sl), v = (vs r0) ∧ Fo = [] ∧ K r0 H') noQE
def a4P (x0 : O3) (H : Hp) (K : Bool → Hp → Prop) : Prop :=
 Ct Tryz.prog 191 [(Value.agg (d5 x0.p9).toArray)] H [] (fun v H' Fo => ∃ (r0 : Bool), v = (vB r0) ∧ Fo = [] ∧ K r0 H') noQE
def a9C (x0 : b9) (H : Hp) (K : d9 → Hp → Prop) : Prop :=
 Ct Tryz.prog 194 [(Value.agg (d5 x0).toArray)] H [] (fun v H' Fo => ∃ (r0 : d9), v = (C3 r0) ∧ Fo = [] ∧ K r0 H') noQE
def G5 (x0 : Sl) (H : Hp) (K : Sl → Hp → Prop) : Prop :=
 Ct Tryz.prog 193 [(vs x0), (fC 194)] H [] (fun v H' Fo => ∃ (r0 : Sl), v = (vs r0) ∧ Fo = [] ∧ K r0 H') noQE
def a7x (x0 : O3) (H : Hp) (K : Sl → Hp → Prop) : Prop :=
 Ct Tryz.prog 192 [(Value.agg (d5 x0.p9).toArray)] H [] (fun v H' Fo => ∃ (r0 : Sl), v = (vs r0) ∧ Fo = [] ∧ K r0 H') noQE
def a8k (x0 : V1) (H : Hp) (K : Bool → Hp → Prop) : Prop :=
 Ct Tryz.prog 195 [(Value.agg (p8 x0.V2).toArray)] H [] (fun v H' Fo => ∃ (r0 : Bool), v = (vB r0) ∧ Fo = [] ∧ K r0 H') noQE
def a7y (x0 : V1) (H : Hp) (K : Sl → Hp → Prop) : Prop :=
 Ct Tryz.prog 196 [(Value.agg (p8 x0.V2).toArray)] H [] (fun v H' Fo => ∃ (r0 : Sl), v = (vs r0) ∧ Fo = [] ∧ K r0 H') noQE
def a4Q (x0 : R5) (H : Hp) (K : Bool → Hp → Prop) : Prop :=
 Ct Tryz.prog 197 [(Value.agg (g7 x0.i6).toArray)] H [] (fun v H' Fo => ∃ (r0 : Bool), v = (vB r0) ∧ Fo = [] ∧ K r0 H') noQE
def a7z (x0 : R5) (H : Hp) (K : Sl → Hp → Prop) : Prop :=
 Ct Tryz.prog 198 [(Value.agg (g7 x0.i6).toArray)] H [] (fun v H' Fo => ∃ (r0 : Sl), v = (vs r0) ∧ Fo = [] ∧ K r0 H') noQE
def a6w (x : d9) (H : Hp) (K : Bool → Hp → Prop) : Prop := match x with
 | .nil => False
 | .J9 y => a4O y H K
 | .N6 y => a4P y H K
 | .O7 y => a8k y H K
 | .M6 y => a4Q y H K
def a5W (x : d9) (H : Hp) (K : Sl → Hp → Prop) : Prop := match x with
 | .nil => False
 | .J9 y => a7w y H K
 | .N6 y => a7x y H K
 | .O7 y => a7y y H K
 | .M6 y => a7z y H K
theorem b5K {E : Pan} {w0 w : World} {ps : Nat → Prop} {H0 H : Hp} {Fr : List Frag} {K : RT} {Kc : Bool → Hp → Prop} {x : d9} (I : Inv w0 ps H0 H Fr w) (h : a6w x H Kc) (hq : ∀ (r0 : Bool) (H' : Hp) (w' : World), Inv w0 ps H0 H' Fr w' → Hle H H' → (∀ i, i < w.heap.size → ¬ inF [] i → w'.heap[i]? = w.heap[i]?) → Kc r0 H' → K (vB r0) w') : oP E (xInvoke (C3 x) "gnomon/tree.form" []) w K := by
 cases x with
 | nil => exact h.elim
 | J9 y => exact a6e (f := 187) (args := [(Value.agg (b7 y.r6).toArray)].toArray) (by kernel_rfl) (m4 (Fi := []) I h (fun v H' Fo w' I' l hk hq' => by obtain ⟨r0, rfl, rfl, hK⟩ := hq'; exact hq r0 H' w' I' l hk hK) (fun _ _ _ _ _ q => q.elim))
 | N6 y => exact a6e (f := 191) (args := [(Value.agg (d5 y.p9).toArray)].toArray) (by kernel_rfl) (m4 (Fi := []) I h (fun v H' Fo w' I' l hk hq' => by obtain ⟨r0, rfl, rfl, hK⟩ := hq'; exact hq r0 H' w' I' l hk hK) (fun _ _ _ _ _ q => q.elim))
 | O7 y => exact a6e (f := 195) (args := [(Value.agg (p8 y.V2).toArray)].toArray) (by kernel_rfl) (m4 (Fi := []) I h (fun v H' Fo w' I' l hk hq' => by obtain ⟨r0, rfl, rfl, hK⟩ := hq'; exact hq r0 H' w' I' l hk hK) (fun _ _ _ _ _ q => q.elim))
 | M6 y => exact a6e (f := 197) (args := [(Value.agg (g7 y.i6).toArray)].toArray) (by kernel_rfl) (m4 (Fi := []) I h (fun v H' Fo w' I' l hk hq' => by obtain ⟨r0, rfl, rfl, hK⟩ := hq'; exact hq r0 H' w' I' l hk hK) (fun _ _ _ _ _ q => q.elim))
theorem b4U {E : Pan} {w0 w : World} {ps : Nat → Prop} {H0 H : Hp} {Fr : List Frag} {K : RT} {Kc : Sl → Hp → Prop} {x : d9} (I : Inv w0 ps H0 H Fr w) (h : a5W x H Kc) (hq : ∀ (r0 : Sl) (H' : Hp) (w' : World), Inv w0 ps H0 H' Fr w' → Hle H H' → (∀ i, i < w.heap.size → ¬ inF [] i → w'.heap[i]? = w.heap[i]?) → Kc r0 H' → K (vs r0) w') : oP E (xInvoke (C3 x) "gnomon/tree.parts" []) w K := by
 cases x with
 | nil => exact h.elim
 | J9 y => exact a6e (f := 188) (args := [(Value.agg (b7 y.r6).toArray)].toArray) (by kernel_rfl) (m4 (Fi := []) I h (fun v H' Fo w' I' l hk hq' => by obtain ⟨r0, rfl, rfl, hK⟩ := hq'; exact hq r0 H' w' I' l hk hK) (fun _ _ _ _ _ q => q.elim))
 | N6 y => exact a6e (f := 192) (args := [(Value.agg (d5 y.p9).toArray)].toArray) (by kernel_rfl) (m4 (Fi := []) I h (fun v H' Fo w' I' l hk hq' => by obtain ⟨r0, rfl, rfl, hK⟩ := hq'; exact hq r0 H' w' I' l hk hK) (fun _ _ _ _ _ q => q.elim))
 | O7 y => exact a6e (f := 196) (args := [(Value.agg (p8 y.V2).toArray)].toArray) (by kernel_rfl) (m4 (Fi := []) I h (fun v H' Fo w' I' l hk hq' => by obtain ⟨r0, rfl, rfl, hK⟩ := hq'; exact hq r0 H' w' I' l hk hK) (fun _ _ _ _ _ q => q.elim))
 | M6 y => exact a6e (f := 198) (args := [(Value.agg (g7 y.i6).toArray)].toArray) (by kernel_rfl) (m4 (Fi := []) I h (fun v H' Fo w' I' l hk hq' => by obtain ⟨r0, rfl, rfl, hK⟩ := hq'; exact hq r0 H' w' I' l hk hK) (fun _ _ _ _ _ q => q.elim))
end Go.Proofs.YtnhkdkcgdcgmdaaGreatDoor
