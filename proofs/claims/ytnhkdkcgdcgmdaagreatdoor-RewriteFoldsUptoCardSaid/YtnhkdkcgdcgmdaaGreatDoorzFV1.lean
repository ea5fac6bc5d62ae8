/- Contracts of the program's functions; printed by lift.py off the code. -/
import Derived.Test.YtnhkdkcgdcgmdaaGreatDoorzFU1
import Derived.Test.YtnhkdkcgdcgmdaaGreatDoorzFG1a
namespace Go.Proofs.YtnhkdkcgdcgmdaaGreatDoor
open Go.RowKit
set_option maxRecDepth 100000
set_option maxHeartbeats 2000000
def Z5 (x0 : Int) (H : Hp) (K : a8 → Hp → Prop) : Prop :=
 Ct Tryz.prog 22 [(vi x0)] H [] (fun v H' Fo => ∃ (r0 : a8), v = (Value.agg (b7 r0).toArray) ∧ Fo = [] ∧ K r0 H') noQE
def a7f (x0 : i5) (H : Hp) (K : ByteArray → Bool → Hp → Prop) : Prop :=
 Ct Tryz.prog 143 [(E7 x0)] H [] (fun v H' Fo => ∃ (r0 : ByteArray) (r1 : Bool), v = (Value.tuple #[(Value.string r0), (vB r1)]) ∧ Fo = [] ∧ K r0 r1 H') noQE
def R9 (x0 : Int) (x1 : Int) (x2 : Int) (H : Hp) (K : Bool → Hp → Prop) : Prop :=
 ∀ (g2 : Nat), Ct Tryz.prog 170 [(Value.int .i32 x0), (Value.int .i32 x1), (Value.pointer (some ⟨g2, 0, none⟩))] H [bx g2 21 [(Value.int .i32 x2)]] (fun v H' Fo => ∃ (r0 : Bool), v = (vB r0) ∧ Fo = [bx g2 21 [(Value.int .i32 x2)]] ∧ K r0 H') noQE
def a8R (x0 : Int) (H : Hp) (K : Int → Hp → Prop) : Prop :=
 Ct Tryz.prog 166 [(Value.int .i32 x0)] H [] (fun v H' Fo => ∃ (r0 : Int), v = (vi r0) ∧ Fo = [] ∧ K r0 H') noQE
def b2a (x0 : Int) (H : Hp) (K : Bool → Hp → Prop) : Prop :=
 Ct Tryz.prog 165 [(Value.int .i32 x0)] H [] (fun v H' Fo => ∃ (r0 : Bool), v = (vB r0) ∧ Fo = [] ∧ K r0 H') noQE
def b1U (x0 : ByteArray) (H : Hp) (K : Bool → Hp → Prop) : Prop :=
 Ct Tryz.prog 162 [(Value.string x0)] H [] (fun v H' Fo => ∃ (r0 : Bool), v = (vB r0) ∧ Fo = [] ∧ K r0 H') noQE
def a3Y (x0 : ByteArray) (H : Hp) (K : Int → Hp → Prop) : Prop :=
 Ct Tryz.prog 169 [(Value.string x0)] H [] (fun v H' Fo => ∃ (r0 : Int), v = (vi r0) ∧ Fo = [] ∧ K r0 H') noQE
def b0l (x0 : ByteArray) (H : Hp) (K : Bool → Hp → Prop) : Prop :=
 Ct Tryz.prog 163 [(Value.string x0)] H [] (fun v H' Fo => ∃ (r0 : Bool), v = (vB r0) ∧ Fo = [] ∧ K r0 H') noQE
def a7N (x0 : ByteArray) (H : Hp) (K : Bool → Hp → Prop) : Prop :=
 Ct Tryz.prog 164 [(Value.string x0)] H [] (fun v H' Fo => ∃ (r0 : Bool), v = (vB r0) ∧ Fo = [] ∧ K r0 H') noQE
def b0m (x0 : ByteArray) (H : Hp) (K : Bool → Hp → Prop) : Prop :=
 Ct Tryz.prog 144 [(Value.string x0)] H [] (fun v H' Fo => ∃ (r0 : Bool), v = (vB r0) ∧ Fo = [] ∧ K r0 H') noQE
def a6o (x0 : (List ByteArray)) (x1 : ByteArray) (H : Hp) (K : Int → Hp → Prop) : Prop :=
 ∀ (sx0 : Sl) (Fx0 : Frag), RowL 9 1 N2 sx0 x0 Fx0 → Ct Tryz.prog 167 [(vs sx0), (Value.string x1)] H [Fx0] (fun v H' Fo => ∃ (r0 : Int), v = (vi r0) ∧ Fo = [Fx0] ∧ K r0 H') noQE
def V2 (x0 : (List ByteArray)) (x1 : ByteArray) (H : Hp) (K : Bool → Hp → Prop) : Prop :=
 ∀ (sx0 : Sl) (Fx0 : Frag), RowL 9 1 N2 sx0 x0 Fx0 → Ct Tryz.prog 145 [(vs sx0), (Value.string x1)] H [Fx0] (fun v H' Fo => ∃ (r0 : Bool), v = (vB r0) ∧ Fo = [Fx0] ∧ K r0 H') noQE
def a7H (x0 : o5) (a3Z : (List ByteArray)) (x1 : i5) (x2 : Int) (H : Hp) (K : Bool → o5 → (List ByteArray) → Hp → Prop) : Prop :=
 ∀ (g0 : Nat), ∀ (a3m : Sl) (a9A : Frag), RowL 9 1 N2 a3m a3Z a9A → Ct Tryz.prog 111 [(Value.pointer (some ⟨g0, 0, none⟩)), (E7 x1), (vi x2)] H [bx g0 101 [(vi x0.fnodes), (vi x0.fdepth), (vi x0.fe), (vB x0.fform), (vB x0.fnamed), (vs a3m)], a9A] (fun v H' Fo => ∃ (r0 : Bool) (y0 : o5) (b4m : (List ByteArray)) (b1h : Sl) (b1i : Frag), v = (vB r0) ∧ Fo = [bx g0 101 [(vi y0.fnodes), (vi y0.fdepth), (vi y0.fe), (vB y0.fform), (vB y0.fnamed), (vs b1h)], b1i] ∧ RowL 9 1 N2 b1h b4m b1i ∧ K r0 y0 b4m H') noQE
def a3v (x0 : Sl) (x1 : Int) (x2 : o5) (c0D : (List ByteArray)) (H : Hp) (K : Bool → o5 → (List ByteArray) → Hp → Prop) : Prop :=
 ∀ (g2 g2b g3 : Nat), ∀ (c2P : Sl) (c2Q : Frag), RowL 9 1 N2 c2P c0D c2Q → Ct Tryz.prog 110 [(vs x0), (vi x1), (Value.pointer (some ⟨g2, 0, none⟩)), (Value.pointer (some ⟨g3, 0, none⟩))] H [bx g2 102 [(Value.pointer (some ⟨g2b, 0, none⟩))], bx g2b 101 [(vi x2.fnodes), (vi x2.fdepth), (vi x2.fe), (vB x2.fform), (vB x2.fnamed), (vs c2P)], c2Q, bx g3 170 [(Value.func (.func 110) #[] #[(Value.pointer (some ⟨g2, 0, none⟩)), (Value.pointer (some ⟨g3, 0, none⟩))])]] (fun v H' Fo => ∃ (r0 : Bool) (y0 : o5) (b4m : (List ByteArray)) (b1h : Sl) (b1i : Frag), v = (vB r0) ∧ Fo = [bx g2 102 [(Value.pointer (some ⟨g2b, 0, none⟩))], bx g2b 101 [(vi y0.fnodes), (vi y0.fdepth), (vi y0.fe), (vB y0.fform), (vB y0.fnamed), (vs b1h)], b1i, bx g3 170 [(Value.func (.func 110) #[] #[(Value.pointer (some ⟨g2, 0, none⟩)), (Value.pointer (some ⟨g3, 0, none⟩))])]] ∧ RowL 9 1 N2 b1h b4m b1i ∧ K r0 y0 b4m H') noQE
def a4Z (x0 : Sl) (H : Hp) (K : o5 → Hp → Prop) : Prop :=
 Ct Tryz.prog 65 [(vs x0)] H [] (fun v H' Fo => ∃ (r0 : o5) (gr0 : Nat), v = (Value.pointer (some ⟨gr0, 0, none⟩)) ∧ Fo = [bx gr0 101 (b3g r0)] ∧ K r0 H') noQE
def b2C (x0 : a8) (H : Hp) (K : Int → Hp → Prop) : Prop :=
 Ct Tryz.prog 39 [(Value.agg (b7 x0).toArray)] H [] (fun v H' Fo => ∃ (r0 : Int), v = (vi r0) ∧ Fo = [] ∧ K r0 H') noQE
def T3 (x0 : a8) (H : Hp) (K : Int → Bool → Hp → Prop) : Prop :=
 Ct Tryz.prog 67 [(Value.agg (b7 x0).toArray)] H [] (fun v H' Fo => ∃ (r0 : Int) (r1 : Bool), v = (Value.tuple #[(vi r0), (vB r1)]) ∧ Fo = [] ∧ K r0 r1 H') noQE
def a1C (x0 : a8) (x1 : Int) (H : Hp) (K : Bool → Hp → Prop) : Prop :=
 Ct Tryz.prog 70 [(Value.agg (b7 x0).toArray), (vi x1)] H [] (fun v H' Fo => ∃ (r0 : Bool), v = (vB r0) ∧ Fo = [] ∧ K r0 H') noQE
def B4 (x0 : Sl) (H : Hp) (K : Sl → Hp → Prop) : Prop :=
 Ct Tryz.prog 66 [(vs x0), (fC 40)] H [] (fun v H' Fo => ∃ (r0 : Sl), v = (vs r0) ∧ Fo = [] ∧ K r0 H') noQE
def a6M (x0 : Int) (H : Hp) (K : a8 → Hp → Prop) : Prop :=
 Ct Tryz.prog 68 [(vi x0)] H [] (fun v H' Fo => ∃ (r0 : a8), v = (Value.agg (b7 r0).toArray) ∧ Fo = [] ∧ K r0 H') noQE
def a8G (x0 : Int) (x1 : Int) (H : Hp) (K : Int → Int → Hp → Prop) : Prop :=
 Ct Tryz.prog 114 [(vi x0), (vi x1)] H [] (fun v H' Fo => ∃ (r0 : Int) (r1 : Int), v = (Value.tuple #[(vi r0), (vi r1)]) ∧ Fo = [] ∧ K r0 r1 H') noQE
def b1j (x0 : Int) (H : Hp) (K : Int → Int → Hp → Prop) : Prop :=
 Ct Tryz.prog 112 [(vi x0)] H [] (fun v H' Fo => ∃ (r0 : Int) (r1 : Int), v = (Value.tuple #[(vi r0), (vi r1)]) ∧ Fo = [] ∧ K r0 r1 H') noQE
def b1k (x0 : Int) (x1 : Int) (H : Hp) (K : Int → Int → Hp → Prop) : Prop :=
 Ct Tryz.prog 113 [(vi x0), (vi x1)] H [] (fun v H' Fo => ∃ (r0 : Int) (r1 : Int), v = (Value.tuple #[(vi r0), (vi r1)]) ∧ Fo = [] ∧ K r0 r1 H') noQE
def b0n (x0 : Int) (H : Hp) (K : Int → Hp → Prop) : Prop :=
 Ct Tryz.prog 147 [(vi x0)] H [] (fun v H' Fo => ∃ (r0 : Int), v = (Value.int .u64 r0) ∧ Fo = [] ∧ K r0 H') noQE
def b3H (x0 : Int) (x1 : Int) (H : Hp) (K : Int → Int → Hp → Prop) : Prop :=
 Ct Tryz.prog 146 [(Value.int .u64 x0), (Value.int .u64 x1)] H [] (fun v H' Fo => ∃ (r0 : Int) (r1 : Int), v = (Value.tuple #[(Value.int .u64 r0), (Value.int .u64 r1)]) ∧ Fo = [] ∧ K r0 r1 H') noQE
def b1l (x0 : Int) (x1 : Int) (H : Hp) (K : Int → Int → Hp → Prop) : Prop :=
 Ct Tryz.prog 115 [(vi x0), (vi x1)] H [] (fun v H' Fo => ∃ (r0 : Int) (r1 : Int), v = (Value.tuple #[(vi r0), (vi r1)]) ∧ Fo = [] ∧ K r0 r1 H') noQE
def a7U (x0 : Int) (x1 : Int) (H : Hp) (K : Int → Hp → Prop) : Prop :=
 Ct Tryz.prog 148 [(vi x0), (vi x1)] H [] (fun v H' Fo => ∃ (r0 : Int), v = (vi r0) ∧ Fo = [] ∧ K r0 H') noQE
def b1m (x0 : Int) (x1 : Int) (H : Hp) (K : Int → Int → Hp → Prop) : Prop :=
 Ct Tryz.prog 116 [(vi x0), (vi x1)] H [] (fun v H' Fo => ∃ (r0 : Int) (r1 : Int), v = (Value.tuple #[(vi r0), (vi r1)]) ∧ Fo = [] ∧ K r0 r1 H') noQE
def b1n (x0 : Int) (x1 : Int) (H : Hp) (K : Int → Int → Hp → Prop) : Prop :=
 Ct Tryz.prog 117 [(vi x0), (vi x1)] H [] (fun v H' Fo => ∃ (r0 : Int) (r1 : Int), v = (Value.tuple #[(vi r0), (vi r1)]) ∧ Fo = [] ∧ K r0 r1 H') noQE
def a7V (x0 : a8) (H : Hp) (K : Int → Bool → Hp → Prop) : Prop :=
 Ct Tryz.prog 69 [(Value.agg (b7 x0).toArray)] H [] (fun v H' Fo => ∃ (r0 : Int) (r1 : Bool), v = (Value.tuple #[(vi r0), (vB r1)]) ∧ Fo = [] ∧ K r0 r1 H') noQE
def a7s (x0 : a8) (H : Hp) (K : a8 → Hp → Prop) : Prop :=
 Ct Tryz.prog 40 [(Value.agg (b7 x0).toArray)] H [] (fun v H' Fo => ∃ (r0 : a8), v = (Value.agg (b7 r0).toArray) ∧ Fo = [] ∧ K r0 H') noQE
def b0E (x0 : a8) (H : Hp) (K : a8 → Int → Hp → Prop) : Prop :=
 Ct Tryz.prog 21 [(Value.agg (b7 x0).toArray)] H [] (fun v H' Fo => ∃ (r0 : a8) (r1 : Int), v = (Value.tuple #[(Value.agg (b7 r0).toArray), (vi r1)]) ∧ Fo = [] ∧ K r0 r1 H') noQE
def b2D (x0 : b8) (H : Hp) (K : Int → Hp → Prop) : Prop :=
 Ct Tryz.prog 41 [(Value.agg (d6 x0).toArray)] H [] (fun v H' Fo => ∃ (r0 : Int), v = (vi r0) ∧ Fo = [] ∧ K r0 H') noQE
def F0 (x0 : Sl) (H : Hp) (K : Sl → Hp → Prop) : Prop :=
 Ct Tryz.prog 71 [(vs x0), (fC 42)] H [] (fun v H' Fo => ∃ (r0 : Sl), v = (vs r0) ∧ Fo = [] ∧ K r0 H') noQE
def b0F (H : Hp) (K : Hp → Prop) : Prop :=
 Ct Tryz.prog 118 [] H [] (fun v H' Fo => v = (Value.agg #[(fC 149), (fC 150), (fC 151), (fC 152), (fC 153), (fC 154), (fC 155)]) ∧ Fo = [] ∧ K H') noQE
def c8L (x0 : Int) (x1 : Int) (H : Hp) (K : Bool → Hp → Prop) : Prop :=
 Ct Tryz.prog 149 [(vi x0), (vi x1)] H [] (fun v H' Fo => ∃ (r0 : Bool), v = (vB r0) ∧ Fo = [] ∧ K r0 H') noQE
def b3w (x0 : Int) (x1 : Int) (H : Hp) (K : Bool → Hp → Prop) : Prop :=
 Ct Tryz.prog 150 [(vi x0), (vi x1)] H [] (fun v H' Fo => ∃ (r0 : Bool), v = (vB r0) ∧ Fo = [] ∧ K r0 H') noQE
def b3x (x0 : Int) (x1 : Int) (H : Hp) (K : Bool → Hp → Prop) : Prop :=
 Ct Tryz.prog 151 [(vi x0), (vi x1)] H [] (fun v H' Fo => ∃ (r0 : Bool), v = (vB r0) ∧ Fo = [] ∧ K r0 H') noQE
def b3y (x0 : Int) (x1 : Int) (H : Hp) (K : Bool → Hp → Prop) : Prop :=
 Ct Tryz.prog 152 [(vi x0), (vi x1)] H [] (fun v H' Fo => ∃ (r0 : Bool), v = (vB r0) ∧ Fo = [] ∧ K r0 H') noQE
def b3z (x0 : Int) (x1 : Int) (H : Hp) (K : Bool → Hp → Prop) : Prop :=
 Ct Tryz.prog 153 [(vi x0), (vi x1)] H [] (fun v H' Fo => ∃ (r0 : Bool), v = (vB r0) ∧ Fo = [] ∧ K r0 H') noQE
def b3A (x0 : Int) (x1 : Int) (H : Hp) (K : Bool → Hp → Prop) : Prop :=
 Ct Tryz.prog 154 [(vi x0), (vi x1)] H [] (fun v H' Fo => ∃ (r0 : Bool), v = (vB r0) ∧ Fo = [] ∧ K r0 H') noQE
def b3B (x0 : Int) (x1 : Int) (H : Hp) (K : Bool → Hp → Prop) : Prop :=
 Ct Tryz.prog 155 [(vi x0), (vi x1)] H [] (fun v H' Fo => ∃ (r0 : Bool), v = (vB r0) ∧ Fo = [] ∧ K r0 H') noQE
def b4n (x0 : Int) (x1 : Int) (x2 : Int) (H : Hp) (K : Bool → Hp → Prop) : Prop :=
 Ct Tryz.prog 73 [(vi x0), (vi x1), (vi x2)] H [] (fun v H' Fo => ∃ (r0 : Bool), v = (vB r0) ∧ Fo = [] ∧ K r0 H') noQE
def a6N (x0 : Bool) (H : Hp) (K : b8 → Hp → Prop) : Prop :=
 Ct Tryz.prog 72 [(vB x0)] H [] (fun v H' Fo => ∃ (r0 : b8), v = (Value.agg (d6 r0).toArray) ∧ Fo = [] ∧ K r0 H') noQE
def a5I (x0 : b8) (x1 : Int) (x2 : Int) (H : Hp) (K : b8 → Hp → Prop) : Prop :=
 Ct Tryz.prog 74 [(Value.agg (d6 x0).toArray), (vi x1), (vi x2)] H [] (fun v H' Fo => ∃ (r0 : b8), v = (Value.agg (d6 r0).toArray) ∧ Fo = [] ∧ K r0 H') noQE
def a7t (x0 : b8) (H : Hp) (K : b8 → Hp → Prop) : Prop :=
 Ct Tryz.prog 42 [(Value.agg (d6 x0).toArray)] H [] (fun v H' Fo => ∃ (r0 : b8), v = (Value.agg (d6 r0).toArray) ∧ Fo = [] ∧ K r0 H') noQE
def b0G (x0 : b8) (H : Hp) (K : b8 → Int → Hp → Prop) : Prop :=
 Ct Tryz.prog 23 [(Value.agg (d6 x0).toArray)] H [] (fun v H' Fo => ∃ (r0 : b8) (r1 : Int), v = (Value.tuple #[(Value.agg (d6 r0).toArray), (vi r1)]) ∧ Fo = [] ∧ K r0 r1 H') noQE
def a7I (H : Hp) (K : Bool → Hp → Prop) : Prop :=
 Ct Tryz.prog 8 [] H [] (fun v H' Fo => ∃ (r0 : Bool), v = (vB r0) ∧ Fo = [] ∧ K r0 H') noQE
def b5I (x0 : I3) (H : Hp) (K : i5 → Hp → Prop) : Prop :=
 Ct Tryz.prog 77 [(Value.agg (y8 x0).toArray)] H [] (fun v H' Fo => ∃ (r0 : i5), v = (E7 r0) ∧ Fo = [] ∧ K r0 H') noQE
def P3 (x0 : Sl) (H : Hp) (K : Sl → Hp → Prop) : Prop :=
 Ct Tryz.prog 76 [(vs x0), (fC 77)] H [] (fun v H' Fo => ∃ (r0 : Sl), v = (vs r0) ∧ Fo = [] ∧ K r0 H') noQE
def b5J (x0 : d8) (H : Hp) (K : i5 → Hp → Prop) : Prop :=
 Ct Tryz.prog 79 [(Value.agg (g8 x0).toArray)] H [] (fun v H' Fo => ∃ (r0 : i5), v = (E7 r0) ∧ Fo = [] ∧ K r0 H') noQE
def C2 (x0 : Sl) (H : Hp) (K : Sl → Hp → Prop) : Prop :=
 Ct Tryz.prog 78 [(vs x0), (fC 79)] H [] (fun v H' Fo => ∃ (r0 : Sl), v = (vs r0) ∧ Fo = [] ∧ K r0 H') noQE
def a0i (x1 : Int) (H : Hp) (K : (List i5) → Hp → Prop) : Prop :=
 Ct Tryz.prog 119 [(nS), (vi x1)] H [] (fun v H' Fo => ∃ (r0 : (List i5)) (sr0 : Sl) (Fr0 : Frag), v = (vs sr0) ∧ Fo = [Fr0] ∧ RowL 150 1 w8 sr0 r0 Fr0 ∧ K r0 H') noQE
def I2 (x0 : Sl) (H : Hp) (K : Sl → Hp → Prop) : Prop :=
 Ct Tryz.prog 75 [(vs x0)] H [] (fun v H' Fo => ∃ (r0 : Sl), v = (vs r0) ∧ Fo = [] ∧ K r0 H') noQE
def b3I (x0 : m5) (H : Hp) (K : o5 → Hp → Prop) : Prop :=
 Ct Tryz.prog 43 [(Value.agg (k4 x0).toArray)] H [] (fun v H' Fo => ∃ (r0 : o5) (gr0 : Nat), v = (Value.pointer (some ⟨gr0, 0, none⟩)) ∧ Fo = [bx gr0 101 (b3g r0)] ∧ K r0 H') noQE
def b2b (x0 : m5) (H : Hp) (K : Int → Hp → Prop) : Prop :=
 Ct Tryz.prog 24 [(Value.agg (k4 x0).toArray)] H [] (fun v H' Fo => ∃ (r0 : Int), v = (vi r0) ∧ Fo = [] ∧ K r0 H') noQE
def V5 (x0 : Sl) (H : Hp) (K : Sl → Hp → Prop) : Prop :=
 Ct Tryz.prog 44 [(vs x0)] H [] (fun v H' Fo => ∃ (r0 : Sl), v = (vs r0) ∧ Fo = [] ∧ K r0 H') noQE
def a9U (x0 : a8) (H : Hp) (K : a8 → Hp → Prop) : Prop :=
 Ct Tryz.prog 81 [(Value.agg (b7 x0).toArray)] H [] (fun v H' Fo => ∃ (r0 : a8), v = (Value.agg (b7 r0).toArray) ∧ Fo = [] ∧ K r0 H') noQE
def B7 (x0 : Sl) (H : Hp) (K : Sl → Hp → Prop) : Prop :=
 Ct Tryz.prog 80 [(vs x0), (fC 81)] H [] (fun v H' Fo => ∃ (r0 : Sl), v = (vs r0) ∧ Fo = [] ∧ K r0 H') noQE
def a9V (x0 : b8) (H : Hp) (K : b8 → Hp → Prop) : Prop :=
 Ct Tryz.prog 83 [(Value.agg (d6 x0).toArray)] H [] (fun v H' Fo => ∃ (r0 : b8), v = (Value.agg (d6 r0).toArray) ∧ Fo = [] ∧ K r0 H') noQE
def F9 (x0 : Sl) (H : Hp) (K : Sl → Hp → Prop) : Prop :=
 Ct Tryz.prog 82 [(vs x0), (fC 83)] H [] (fun v H' Fo => ∃ (r0 : Sl), v = (vs r0) ∧ Fo = [] ∧ K r0 H') noQE
def a9W (x0 : d8) (H : Hp) (K : d8 → Hp → Prop) : Prop :=
 Ct Tryz.prog 46 [(Value.agg (g8 x0).toArray)] H [] (fun v H' Fo => ∃ (r0 : d8), v = (Value.agg (g8 r0).toArray) ∧ Fo = [] ∧ K r0 H') noQE
def B8 (x0 : Sl) (H : Hp) (K : Sl → Hp → Prop) : Prop :=
 Ct Tryz.prog 45 [(vs x0), (fC 46)] H [] (fun v H' Fo => ∃ (r0 : Sl), v = (vs r0) ∧ Fo = [] ∧ K r0 H') noQE
def b2E (x0 : m5) (H : Hp) (K : m5 → Int → Hp → Prop) : Prop :=
 Ct Tryz.prog 25 [(Value.agg (k4 x0).toArray)] H [] (fun v H' Fo => ∃ (r0 : m5) (r1 : Int), v = (Value.tuple #[(Value.agg (k4 r0).toArray), (vi r1)]) ∧ Fo = [] ∧ K r0 r1 H') noQE
def a5C (x0 : d7) (H : Hp) (K : Int → Hp → Prop) : Prop :=
 Ct Tryz.prog 50 [(Value.agg (l8 x0).toArray)] H [] (fun v H' Fo => ∃ (r0 : Int), v = (vi r0) ∧ Fo = [] ∧ K r0 H') noQE
def a8H (x0 : ByteArray) (x1 : Int) (H : Hp) (K : Int → Int → Bool → Hp → Prop) : Prop :=
 Ct Tryz.prog 123 [(Value.string x0), (vi x1)] H [] (fun v H' Fo => ∃ (r0 : Int) (r1 : Int) (r2 : Bool), v = (Value.tuple #[(vi r0), (vi r1), (vB r2)]) ∧ Fo = [] ∧ K r0 r1 r2 H') noQE
def A4 (x0 : Int) (x1 : Int) (x2 : Int) (H : Hp) (K : Bool → Hp → Prop) : Prop :=
 Ct Tryz.prog 156 [(vi x0), (vi x1), (vi x2)] H [] (fun v H' Fo => ∃ (r0 : Bool), v = (vB r0) ∧ Fo = [] ∧ K r0 H') noQE
def a7W (x0 : Int) (H : Hp) (K : Int → Hp → Prop) : Prop :=
 Ct Tryz.prog 124 [(vi x0)] H [] (fun v H' Fo => ∃ (r0 : Int), v = (vi r0) ∧ Fo = [] ∧ K r0 H') noQE
def a8I (x0 : ByteArray) (H : Hp) (K : Bool → Hp → Prop) : Prop :=
 Ct Tryz.prog 122 [(Value.string x0)] H [] (fun v H' Fo => ∃ (r0 : Bool), v = (vB r0) ∧ Fo = [] ∧ K r0 H') noQE
def a5b (x0 : ByteArray) (H : Hp) (K : Bool → Hp → Prop) : Prop :=
 Ct Tryz.prog 86 [(Value.string x0)] H [] (fun v H' Fo => ∃ (r0 : Bool), v = (vB r0) ∧ Fo = [] ∧ K r0 H') noQE
def X9 (x0 : d7) (x1 : ByteArray) (x2 : Bool) (H : Hp) (K : d7 → Hp → Prop) : Prop :=
 ∀ (g0 : Nat), Ct Tryz.prog 48 [(Value.pointer (some ⟨g0, 0, none⟩)), (Value.string x1), (vB x2)] H [bx g0 111 (l8 x0)] (fun v H' Fo => ∃ (y0 : d7), v = (Value.tuple #[]) ∧ Fo = [bx g0 111 (l8 y0)] ∧ K y0 H') noQE
def Y0 (x0 : d7) (x1 : a8) (H : Hp) (K : d7 → Hp → Prop) : Prop :=
 ∀ (g0 : Nat), Ct Tryz.prog 88 [(Value.pointer (some ⟨g0, 0, none⟩)), (Value.agg (b7 x1).toArray)] H [bx g0 111 (l8 x0)] (fun v H' Fo => ∃ (y0 : d7), v = (Value.tuple #[]) ∧ Fo = [bx g0 111 (l8 y0)] ∧ K y0 H') noQE
def a1U (x0 : d7) (x1 : b8) (H : Hp) (K : d7 → Hp → Prop) : Prop :=
 ∀ (g0 : Nat), Ct Tryz.prog 87 [(Value.pointer (some ⟨g0, 0, none⟩)), (Value.agg (d6 x1).toArray)] H [bx g0 111 (l8 x0)] (fun v H' Fo => ∃ (y0 : d7), v = (Value.tuple #[]) ∧ Fo = [bx g0 111 (l8 y0)] ∧ K y0 H') noQE
def Y1 (x0 : d7) (x1 : d8) (H : Hp) (K : d7 → Hp → Prop) : Prop :=
 ∀ (g0 : Nat), Ct Tryz.prog 49 [(Value.pointer (some ⟨g0, 0, none⟩)), (Value.agg (g8 x1).toArray)] H [bx g0 111 (l8 x0)] (fun v H' Fo => ∃ (y0 : d7), v = (Value.tuple #[]) ∧ Fo = [bx g0 111 (l8 y0)] ∧ K y0 H') noQE
def T0 (x0 : d9) (x1 : Int) (H : Hp) (K : Bool → d9 → Hp → Prop) : Prop :=
 ∀ (g0 : Nat), Ct Tryz.prog 84 [(Value.pointer (some ⟨g0, 0, none⟩)), (vi x1)] H [bx g0 108 (k8 x0)] (fun v H' Fo => ∃ (r0 : Bool) (y0 : d9), v = (vB r0) ∧ Fo = [bx g0 108 (k8 y0)] ∧ K r0 y0 H') noQE
def Y2 (x0 : d9) (x1 : a8) (x2 : Int) (H : Hp) (K : d9 → Hp → Prop) : Prop :=
 ∀ (g0 : Nat), Ct Tryz.prog 121 [(Value.pointer (some ⟨g0, 0, none⟩)), (Value.agg (b7 x1).toArray), (vi x2)] H [bx g0 108 (k8 x0)] (fun v H' Fo => ∃ (y0 : d9), v = (Value.tuple #[]) ∧ Fo = [bx g0 108 (k8 y0)] ∧ K y0 H') noQE
def a1V (x0 : d9) (x1 : b8) (x2 : Int) (H : Hp) (K : d9 → Hp → Prop) : Prop :=
 ∀ (g0 : Nat), Ct Tryz.prog 120 [(Value.pointer (some ⟨g0, 0, none⟩)), (Value.agg (d6 x1).toArray), (vi x2)] H [bx g0 108 (k8 x0)] (fun v H' Fo => ∃ (y0 : d9), v = (Value.tuple #[]) ∧ Fo = [bx g0 108 (k8 y0)] ∧ K y0 H') noQE
def Y3 (x0 : d9) (x1 : d8) (x2 : Int) (H : Hp) (K : d9 → Hp → Prop) : Prop :=
 ∀ (g0 : Nat), Ct Tryz.prog 85 [(Value.pointer (some ⟨g0, 0, none⟩)), (Value.agg (g8 x1).toArray), (vi x2)] H [bx g0 108 (k8 x0)] (fun v H' Fo => ∃ (y0 : d9), v = (Value.tuple #[]) ∧ Fo = [bx g0 108 (k8 y0)] ∧ K y0 H') noQE
def a3K (x0 : m5) (H : Hp) (K : d9 → Hp → Prop) : Prop :=
 Ct Tryz.prog 47 [(Value.agg (k4 x0).toArray)] H [] (fun v H' Fo => ∃ (r0 : d9), v = (Value.agg (k8 r0).toArray) ∧ Fo = [] ∧ K r0 H') noQE
def a7X (x0 : m5) (H : Hp) (K : Int → Hp → Prop) : Prop :=
 Ct Tryz.prog 27 [(Value.agg (k4 x0).toArray)] H [] (fun v H' Fo => ∃ (r0 : Int), v = (vi r0) ∧ Fo = [] ∧ K r0 H') noQE
def a5J (x0 : m5) (H : Hp) (K : Bool → Hp → Prop) : Prop :=
 Ct Tryz.prog 29 [(Value.agg (k4 x0).toArray)] H [] (fun v H' Fo => ∃ (r0 : Bool), v = (vB r0) ∧ Fo = [] ∧ K r0 H') noQE
def Z6 (x0 : a8) (x1 : a8) (H : Hp) (K : Bool → Hp → Prop) : Prop :=
 Ct Tryz.prog 53 [(Value.agg (b7 x0).toArray), (Value.agg (b7 x1).toArray)] H [] (fun v H' Fo => ∃ (r0 : Bool), v = (vB r0) ∧ Fo = [] ∧ K r0 H') noQE
def a2L (x0 : b8) (x1 : b8) (H : Hp) (K : Bool → Hp → Prop) : Prop :=
 Ct Tryz.prog 52 [(Value.agg (d6 x0).toArray), (Value.agg (d6 x1).toArray)] H [] (fun v H' Fo => ∃ (r0 : Bool), v = (vB r0) ∧ Fo = [] ∧ K r0 H') noQE
def K2 (x0 : Sl) (x1 : Sl) (H : Hp) (K : Bool → Hp → Prop) : Prop :=
 Ct Tryz.prog 30 [(vs x0), (vs x1)] H [] (fun v H' Fo => ∃ (r0 : Bool), v = (vB r0) ∧ Fo = [] ∧ K r0 H') noQE
def a7Y (x0 : m5) (x1 : m5) (H : Hp) (K : Bool → Hp → Prop) : Prop :=
 Ct Tryz.prog 11 [(Value.agg (k4 x0).toArray), (Value.agg (k4 x1).toArray)] H [] (fun v H' Fo => ∃ (r0 : Bool), v = (vB r0) ∧ Fo = [] ∧ K r0 H') noQE
def O5 (x0 : Int) (x1 : d8) (H : Hp) (K : Bool → Hp → Prop) : Prop :=
 ∀ (g1 : Nat), Ct Tryz.prog 93 [(vi x0), (Value.pointer (some ⟨g1, 0, none⟩))] H [bx g1 73 (g8 x1)] (fun v H' Fo => ∃ (r0 : Bool), v = (vB r0) ∧ Fo = [bx g1 73 (g8 x1)] ∧ K r0 H') noQE
def b0H (x0 : d8) (H : Hp) (K : Sl → Hp → Prop) : Prop :=
 Ct Tryz.prog 54 [(Value.agg (g8 x0).toArray)] H [] (fun v H' Fo => ∃ (r0 : Sl), v = (vs r0) ∧ Fo = [] ∧ K r0 H') noQE
def a1x (x0 : Sl) (H : Hp) (K : Sl → Hp → Prop) : Prop :=
 Ct Tryz.prog 31 [(vs x0)] H [] (fun v H' Fo => ∃ (r0 : Sl), v = (vs r0) ∧ Fo = [] ∧ K r0 H') noQE
def b0I (x0 : m5) (H : Hp) (K : m5 → Int → Hp → Prop) : Prop :=
 Ct Tryz.prog 12 [(Value.agg (k4 x0).toArray)] H [] (fun v H' Fo => ∃ (r0 : m5) (r1 : Int), v = (Value.tuple #[(Value.agg (k4 r0).toArray), (vi r1)]) ∧ Fo = [] ∧ K r0 r1 H') noQE
def K3 (x0 : a8) (H : Hp) (K : Int → Bool → Hp → Prop) : Prop :=
 Ct Tryz.prog 94 [(Value.agg (b7 x0).toArray)] H [] (fun v H' Fo => ∃ (r0 : Int) (r1 : Bool), v = (Value.tuple #[(vi r0), (vB r1)]) ∧ Fo = [] ∧ K r0 r1 H') noQE
def z6 (x0 : a8) (x1 : Int) (H : Hp) (K : Bool → Hp → Prop) : Prop :=
 Ct Tryz.prog 99 [(Value.agg (b7 x0).toArray), (vi x1)] H [] (fun v H' Fo => ∃ (r0 : Bool), v = (vB r0) ∧ Fo = [] ∧ K r0 H') noQE
def a3j (x0 : Int) (H : Hp) (K : Int → Int → Hp → Prop) : Prop :=
 Ct Tryz.prog 125 [(vi x0)] H [] (fun v H' Fo => ∃ (r0 : Int) (r1 : Int), v = (Value.tuple #[(vi r0), (vi r1)]) ∧ Fo = [] ∧ K r0 r1 H') noQE
def a8Z (x0 : Int) (x1 : Int) (H : Hp) (K : Int → Int → Hp → Prop) : Prop :=
 Ct Tryz.prog 126 [(vi x0), (vi x1)] H [] (fun v H' Fo => ∃ (r0 : Int) (r1 : Int), v = (Value.tuple #[(vi r0), (vi r1)]) ∧ Fo = [] ∧ K r0 r1 H') noQE
def a9a (x0 : Int) (x1 : Int) (H : Hp) (K : Int → Int → Hp → Prop) : Prop :=
 Ct Tryz.prog 127 [(vi x0), (vi x1)] H [] (fun v H' Fo => ∃ (r0 : Int) (r1 : Int), v = (Value.tuple #[(vi r0), (vi r1)]) ∧ Fo = [] ∧ K r0 r1 H') noQE
def a9b (x0 : Int) (x1 : Int) (H : Hp) (K : Int → Int → Hp → Prop) : Prop :=
 Ct Tryz.prog 128 [(vi x0), (vi x1)] H [] (fun v H' Fo => ∃ (r0 : Int) (r1 : Int), v = (Value.tuple #[(vi r0), (vi r1)]) ∧ Fo = [] ∧ K r0 r1 H') noQE
def a3o (x0 : Int) (x1 : Int) (H : Hp) (K : Int → Hp → Prop) : Prop :=
 Ct Tryz.prog 157 [(vi x0), (vi x1)] H [] (fun v H' Fo => ∃ (r0 : Int), v = (vi r0) ∧ Fo = [] ∧ K r0 H') noQE
def a9c (x0 : Int) (x1 : Int) (H : Hp) (K : Int → Int → Hp → Prop) : Prop :=
 Ct Tryz.prog 129 [(vi x0), (vi x1)] H [] (fun v H' Fo => ∃ (r0 : Int) (r1 : Int), v = (Value.tuple #[(vi r0), (vi r1)]) ∧ Fo = [] ∧ K r0 r1 H') noQE
def a9d (x0 : Int) (x1 : Int) (H : Hp) (K : Int → Int → Hp → Prop) : Prop :=
 Ct Tryz.prog 130 [(vi x0), (vi x1)] H [] (fun v H' Fo => ∃ (r0 : Int) (r1 : Int), v = (Value.tuple #[(vi r0), (vi r1)]) ∧ Fo = [] ∧ K r0 r1 H') noQE
def a9X (x0 : Int) (x1 : Int) (x2 : Int) (H : Hp) (K : Int → Int → Hp → Prop) : Prop :=
 Ct Tryz.prog 98 [(vi x0), (vi x1), (vi x2)] H [] (fun v H' Fo => ∃ (r0 : Int) (r1 : Int), v = (Value.tuple #[(vi r0), (vi r1)]) ∧ Fo = [] ∧ K r0 r1 H') noQE
def a3L (x0 : Int) (H : Hp) (K : a8 → Hp → Prop) : Prop :=
 Ct Tryz.prog 97 [(vi x0)] H [] (fun v H' Fo => ∃ (r0 : a8), v = (Value.agg (b7 r0).toArray) ∧ Fo = [] ∧ K r0 H') noQE
def a1L (x0 : a8) (H : Hp) (K : a8 → Hp → Prop) : Prop :=
 Ct Tryz.prog 56 [(Value.agg (b7 x0).toArray)] H [] (fun v H' Fo => ∃ (r0 : a8), v = (Value.agg (b7 r0).toArray) ∧ Fo = [] ∧ K r0 H') noQE
def a9e (x0 : Int) (x1 : Int) (x2 : Int) (H : Hp) (K : Bool → Hp → Prop) : Prop :=
 Ct Tryz.prog 96 [(vi x0), (vi x1), (vi x2)] H [] (fun v H' Fo => ∃ (r0 : Bool), v = (vB r0) ∧ Fo = [] ∧ K r0 H') noQE
def a3M (x0 : Bool) (H : Hp) (K : b8 → Hp → Prop) : Prop :=
 Ct Tryz.prog 95 [(vB x0)] H [] (fun v H' Fo => ∃ (r0 : b8), v = (Value.agg (d6 r0).toArray) ∧ Fo = [] ∧ K r0 H') noQE
def a4k (x0 : b8) (H : Hp) (K : b8 → Hp → Prop) : Prop :=
 Ct Tryz.prog 55 [(Value.agg (d6 x0).toArray)] H [] (fun v H' Fo => ∃ (r0 : b8), v = (Value.agg (d6 r0).toArray) ∧ Fo = [] ∧ K r0 H') noQE
def S8 (x0 : Sl) (H : Hp) (K : Sl → Hp → Prop) : Prop :=
 Ct Tryz.prog 32 [(vs x0)] H [] (fun v H' Fo => ∃ (r0 : Sl), v = (vs r0) ∧ Fo = [] ∧ K r0 H') noQE
def a7Z (x0 : m5) (H : Hp) (K : m5 → Int → Hp → Prop) : Prop :=
 Ct Tryz.prog 13 [(Value.agg (k4 x0).toArray)] H [] (fun v H' Fo => ∃ (r0 : m5) (r1 : Int), v = (Value.tuple #[(Value.agg (k4 r0).toArray), (vi r1)]) ∧ Fo = [] ∧ K r0 r1 H') noQE
def a3w (x0 : m5) (H : Hp) (K : Bool → Hp → Prop) : Prop :=
 Ct Tryz.prog 4 [(Value.agg (k4 x0).toArray)] H [] (fun v H' Fo => ∃ (r0 : Bool), v = (vB r0) ∧ Fo = [] ∧ K r0 H') noQE
def a9f (x0 : M2) (H : Hp) (K : Bool → Hp → Prop) : Prop :=
 Ct Tryz.prog 187 [(Value.agg (b7 x0.u2).toArray)] H [] (fun v H' Fo => ∃ (r0 : Bool), v = (vB r0) ∧ Fo = [] ∧ K r0 H') noQE
def b5K (x0 : a8) (H : Hp) (K : i5 → Hp → Prop) : Prop :=
 Ct Tryz.prog 190 [(Value.agg (b7 x0).toArray)] H [] (fun v H' Fo => ∃ (r0 : i5), v = (E7 r0) ∧ Fo = [] ∧ K r0 H') noQE
def C3 (x0 : Sl) (H : Hp) (K : Sl → Hp → Prop) : Prop :=
 Ct Tryz.prog 189 [(vs x0), (fC 190)] H [] (fun v H' Fo => ∃ (r0 : Sl), v = (vs r0) ∧ Fo = [] ∧ K r0 H') noQE
def b2F (x0 : M2) (H : Hp) (K : Sl → Hp → Prop) : Prop :=
 Ct Tryz.prog 188 [(Value.agg (b7 x0.u2).toArray)] H [] (fun v H' Fo => ∃ (r0 : Sl), v = (vs r0) ∧ Fo = [] ∧ K r0 H') noQE
def a9g (x0 : R7) (H : Hp) (K : Bool → Hp → Prop) : Prop :=
 Ct Tryz.prog 191 [(Value.agg (d6 x0.t1).toArray)] H [] (fun v H' Fo => ∃ (r0 : Bool), v = (vB r0) ∧ Fo = [] ∧ K r0 H') noQE
def b5L (x0 : b8) (H : Hp) (K : i5 → Hp → Prop) : Prop :=
 Ct Tryz.prog 194 [(Value.agg (d6 x0).toArray)] H [] (fun v H' Fo => ∃ (r0 : i5), v = (E7 r0) ∧ Fo = [] ∧ K r0 H') noQE
def I8 (x0 : Sl) (H : Hp) (K : Sl → Hp → Prop) : Prop :=
 Ct Tryz.prog 193 [(vs x0), (fC 194)] H [] (fun v H' Fo => ∃ (r0 : Sl), v = (vs r0) ∧ Fo = [] ∧ K r0 H') noQE
def b2G (x0 : R7) (H : Hp) (K : Sl → Hp → Prop) : Prop :=
 Ct Tryz.prog 192 [(Value.agg (d6 x0.t1).toArray)] H [] (fun v H' Fo => ∃ (r0 : Sl), v = (vs r0) ∧ Fo = [] ∧ K r0 H') noQE
def b3C (x0 : a0k) (H : Hp) (K : Bool → Hp → Prop) : Prop :=
 Ct Tryz.prog 195 [(Value.agg (y8 x0.a0l).toArray)] H [] (fun v H' Fo => ∃ (r0 : Bool), v = (vB r0) ∧ Fo = [] ∧ K r0 H') noQE
def b2H (x0 : a0k) (H : Hp) (K : Sl → Hp → Prop) : Prop :=
 Ct Tryz.prog 196 [(Value.agg (y8 x0.a0l).toArray)] H [] (fun v H' Fo => ∃ (r0 : Sl), v = (vs r0) ∧ Fo = [] ∧ K r0 H') noQE
def a9h (x0 : W3) (H : Hp) (K : Bool → Hp → Prop) : Prop :=
 Ct Tryz.prog 197 [(Value.agg (g8 x0.k9).toArray)] H [] (fun v H' Fo => ∃ (r0 : Bool), v = (vB r0) ∧ Fo = [] ∧ K r0 H') noQE
def b2I (x0 : W3) (H : Hp) (K : Sl → Hp → Prop) : Prop :=
 Ct Tryz.prog 198 [(Value.agg (g8 x0.k9).toArray)] H [] (fun v H' Fo => ∃ (r0 : Sl), v = (vs r0) ∧ Fo = [] ∧ K r0 H') noQE
def b1o (x : i5) (H : Hp) (K : Bool → Hp → Prop) : Prop := match x with
 | .nil => False
 | .J8 y => a9f y H K
 | .Q1 y => a9g y H K
 | .S6 y => b3C y H K
 | .O3 y => a9h y H K
def b0J (x : i5) (H : Hp) (K : Sl → Hp → Prop) : Prop := match x with
 | .nil => False
 | .J8 y => b2F y H K
 | .Q1 y => b2G y H K
 | .S6 y => b2H y H K
 | .O3 y => b2I y H K
theorem c4B {E : Pan} {w0 w : World} {ps : Nat → Prop} {H0 H : Hp} {Fr : List Frag} {K : RT} {Kc : Bool → Hp → Prop} {x : i5} (I : Inv w0 ps H0 H Fr w) (h : b1o x H Kc) (hq : ∀ (r0 : Bool) (H' : Hp) (w' : World), Inv w0 ps H0 H' Fr w' → Hle H H' → (∀ i, i < w.heap.size → ¬ inF [] i → w'.heap[i]? = w.heap[i]?) → Kc r0 H' → K (vB r0) w') : oP E (xInvoke (E7 x) "gnomon/tree.form" []) w K := by
 cases x with
 | nil => exact h.elim
 | J8 y => exact b1a (f := 187) (args := [(Value.agg (b7 y.u2).toArray)].toArray) (by kernel_rfl) (l7 (Fi := []) I h (fun v H' Fo w' I' l hk hq' => by obtain ⟨r0, rfl, rfl, hK⟩ := hq'; exact hq r0 H' w' I' l hk hK) (fun _ _ _ _ _ q => q.elim))
 | Q1 y => exact b1a (f := 191) (args := [(Value.agg (d6 y.t1).toArray)].toArray) (by kernel_rfl) (l7 (Fi := []) I h (fun v H' Fo w' I' l hk hq' => by obtain ⟨r0, rfl, rfl, hK⟩ := hq'; exact hq r0 H' w' I' l hk hK) (fun _ _ _ _ _ q => q.elim))
 | S6 y => exact b1a (f := 195) (args := [(Value.agg (y8 y.a0l).toArray)].toArray) (by kernel_rfl) (l7 (Fi := []) I h (fun v H' Fo w' I' l hk hq' => by obtain ⟨r0, rfl, rfl, hK⟩ := hq'; exact hq r0 H' w' I' l hk hK) (fun _ _ _ _ _ q => q.elim))
 | O3 y => exact b1a (f := 197) (args := [(Value.agg (g8 y.k9).toArray)].toArray) (by kernel_rfl) (l7 (Fi := []) I h (fun v H' Fo w' I' l hk hq' => by obtain ⟨r0, rfl, rfl, hK⟩ := hq'; exact hq r0 H' w' I' l hk hK) (fun _ _ _ _ _ q => q.elim))
theorem c3B {E : Pan} {w0 w : World} {ps : Nat → Prop} {H0 H : Hp} {Fr : List Frag} {K : RT} {Kc : Sl → Hp → Prop} {x : i5} (I : Inv w0 ps H0 H Fr w) (h : b0J x H Kc) (hq : ∀ (r0 : Sl) (H' : Hp) (w' : World), Inv w0 ps H0 H' Fr w' → Hle H H' → (∀ i, i < w.heap.size → ¬ inF [] i → w'.heap[i]? = w.heap[i]?) → Kc r0 H' → K (vs r0) w') : oP E (xInvoke (E7 x) "gnomon/tree.parts" []) w K := by
 cases x with
 | nil => exact h.elim
 | J8 y => exact b1a (f := 188) (args := [(Value.agg (b7 y.u2).toArray)].toArray) (by kernel_rfl) (l7 (Fi := []) I h (fun v H' Fo w' I' l hk hq' => by obtain ⟨r0, rfl, rfl, hK⟩ := hq'; exact hq r0 H' w' I' l hk hK) (fun _ _ _ _ _ q => q.elim))
 | Q1 y => exact b1a (f := 192) (args := [(Value.agg (d6 y.t1).toArray)].toArray) (by kernel_rfl) (l7 (Fi := []) I h (fun v H' Fo w' I' l hk hq' => by obtain ⟨r0, rfl, rfl, hK⟩ := hq'; exact hq r0 H' w' I' l hk hK) (fun _ _ _ _ _ q => q.elim))
 | S6 y => exact b1a (f := 196) (args := [(Value.agg (y8 y.a0l).toArray)].toArray) (by kernel_rfl) (l7 (Fi := []) I h (fun v H' Fo w' I' l hk hq' => by obtain ⟨r0, rfl, rfl, hK⟩ := hq'; exact hq r0 H' w' I' l hk hK) (fun _ _ _ _ _ q => q.elim))
 | O3 y => exact b1a (f := 198) (args := [(Value.agg (g8 y.k9).toArray)].toArray) (by kernel_rfl) (l7 (Fi := []) I h (fun v H' Fo w' I' l hk hq' => by obtain ⟨r0, rfl, rfl, hK⟩ := hq'; exact hq r0 H' w' I' l hk hK) (fun _ _ _ _ _ q => q.elim))
end Go.Proofs.YtnhkdkcgdcgmdaaGreatDoor
