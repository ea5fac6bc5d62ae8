/- Contracts of the program's functions; printed by lift.py off the code. -/
import Derived.Test.YtnhkdkcgdcgmdaaGreatDoorzRU1
import Derived.Test.YtnhkdkcgdcgmdaaGreatDoorzRG1a
namespace Go.Proofs.YtnhkdkcgdcgmdaaGreatDoor
open Go.RowKit
set_option maxRecDepth 100000
set_option maxHeartbeats 2000000
def U2 (x0 : Int) (H : Hp) (K : b6 → Hp → Prop) : Prop :=
 Ct Tryz.prog 22 [(vi x0)] H [] (fun v H' Fo => ∃ (r0 : b6), v = (Value.agg (b8 r0).toArray) ∧ Fo = [] ∧ K r0 H') noQE
def a3D (x0 : d9) (H : Hp) (K : ByteArray → Bool → Hp → Prop) : Prop :=
 Ct Tryz.prog 143 [(D1 x0)] H [] (fun v H' Fo => ∃ (r0 : ByteArray) (r1 : Bool), v = (Value.tuple #[(Value.string r0), (vB r1)]) ∧ Fo = [] ∧ K r0 r1 H') noQE
def P2 (x0 : Int) (x1 : Int) (x2 : Int) (H : Hp) (K : Bool → Hp → Prop) : Prop :=
 ∀ (g2 : Nat), Ct Tryz.prog 170 [(Value.int .i32 x0), (Value.int .i32 x1), (Value.pointer (some ⟨g2, 0, none⟩))] H [bx g2 21 [(Value.int .i32 x2)]] (fun v H' Fo => ∃ (r0 : Bool), v = (vB r0) ∧ Fo = [bx g2 21 [(Value.int .i32 x2)]] ∧ K r0 H') noQE
def a4K (x0 : Int) (H : Hp) (K : Int → Hp → Prop) : Prop :=
 Ct Tryz.prog 166 [(Value.int .i32 x0)] H [] (fun v H' Fo => ∃ (r0 : Int), v = (vi r0) ∧ Fo = [] ∧ K r0 H') noQE
def a7o (x0 : Int) (H : Hp) (K : Bool → Hp → Prop) : Prop :=
 Ct Tryz.prog 165 [(Value.int .i32 x0)] H [] (fun v H' Fo => ∃ (r0 : Bool), v = (vB r0) ∧ Fo = [] ∧ K r0 H') noQE
def a7i (x0 : ByteArray) (H : Hp) (K : Bool → Hp → Prop) : Prop :=
 Ct Tryz.prog 162 [(Value.string x0)] H [] (fun v H' Fo => ∃ (r0 : Bool), v = (vB r0) ∧ Fo = [] ∧ K r0 H') noQE
def a0S (x0 : ByteArray) (H : Hp) (K : Int → Hp → Prop) : Prop :=
 Ct Tryz.prog 169 [(Value.string x0)] H [] (fun v H' Fo => ∃ (r0 : Int), v = (vi r0) ∧ Fo = [] ∧ K r0 H') noQE
def a5K (x0 : ByteArray) (H : Hp) (K : Bool → Hp → Prop) : Prop :=
 Ct Tryz.prog 163 [(Value.string x0)] H [] (fun v H' Fo => ∃ (r0 : Bool), v = (vB r0) ∧ Fo = [] ∧ K r0 H') noQE
def a4e (x0 : ByteArray) (H : Hp) (K : Bool → Hp → Prop) : Prop :=
 Ct Tryz.prog 164 [(Value.string x0)] H [] (fun v H' Fo => ∃ (r0 : Bool), v = (vB r0) ∧ Fo = [] ∧ K r0 H') noQE
def a5L (x0 : ByteArray) (H : Hp) (K : Bool → Hp → Prop) : Prop :=
 Ct Tryz.prog 144 [(Value.string x0)] H [] (fun v H' Fo => ∃ (r0 : Bool), v = (vB r0) ∧ Fo = [] ∧ K r0 H') noQE
def a2N (x0 : (List ByteArray)) (x1 : ByteArray) (H : Hp) (K : Int → Hp → Prop) : Prop :=
 ∀ (sx0 : Sl) (Fx0 : Frag), RowL 9 1 M3 sx0 x0 Fx0 → Ct Tryz.prog 167 [(vs sx0), (Value.string x1)] H [Fx0] (fun v H' Fo => ∃ (r0 : Int), v = (vi r0) ∧ Fo = [Fx0] ∧ K r0 H') noQE
def R0 (x0 : (List ByteArray)) (x1 : ByteArray) (H : Hp) (K : Bool → Hp → Prop) : Prop :=
 ∀ (sx0 : Sl) (Fx0 : Frag), RowL 9 1 M3 sx0 x0 Fx0 → Ct Tryz.prog 145 [(vs sx0), (Value.string x1)] H [Fx0] (fun v H' Fo => ∃ (r0 : Bool), v = (vB r0) ∧ Fo = [Fx0] ∧ K r0 H') noQE
def a3T (x0 : l9) (a0T : (List ByteArray)) (x1 : d9) (x2 : Int) (H : Hp) (K : Bool → l9 → (List ByteArray) → Hp → Prop) : Prop :=
 ∀ (g0 : Nat), ∀ (a0w : Sl) (a5h : Frag), RowL 9 1 M3 a0w a0T a5h → Ct Tryz.prog 111 [(Value.pointer (some ⟨g0, 0, none⟩)), (D1 x1), (vi x2)] H [bx g0 101 [(vi x0.fnodes), (vi x0.fdepth), (vi x0.fe), (vB x0.fform), (vB x0.fnamed), (vs a0w)], a5h] (fun v H' Fo => ∃ (r0 : Bool) (y0 : l9) (a9k : (List ByteArray)) (a6D : Sl) (a6E : Frag), v = (vB r0) ∧ Fo = [bx g0 101 [(vi y0.fnodes), (vi y0.fdepth), (vi y0.fe), (vB y0.fform), (vB y0.fnamed), (vs a6D)], a6E] ∧ RowL 9 1 M3 a6D a9k a6E ∧ K r0 y0 a9k H') noQE
def a0F (x0 : Sl) (x1 : Int) (x2 : l9) (b3z : (List ByteArray)) (H : Hp) (K : Bool → l9 → (List ByteArray) → Hp → Prop) : Prop :=
 ∀ (g2 g2b g3 : Nat), ∀ (b4Z : Sl) (b5a : Frag), RowL 9 1 M3 b4Z b3z b5a → Ct Tryz.prog 110 [(vs x0), (vi x1), (Value.pointer (some ⟨g2, 0, none⟩)), (Value.pointer (some ⟨g3, 0, none⟩))] H [bx g2 102 [(Value.pointer (some ⟨g2b, 0, none⟩))], bx g2b 101 [(vi x2.fnodes), (vi x2.fdepth), (vi x2.fe), (vB x2.fform), (vB x2.fnamed), (vs b4Z)], b5a, bx g3 170 [(Value.func (.func 110) #[] #[(Value.pointer (some ⟨g2, 0, none⟩)), (Value.pointer (some ⟨g3, 0, none⟩))])]] (fun v H' Fo => ∃ (r0 : Bool) (y0 : l9) (a9k : (List ByteArray)) (a6D : Sl) (a6E : Frag), v = (vB r0) ∧ Fo = [bx g2 102 [(Value.pointer (some ⟨g2b, 0, none⟩))], bx g2b 101 [(vi y0.fnodes), (vi y0.fdepth), (vi y0.fe), (vB y0.fform), (vB y0.fnamed), (vs a6D)], a6E, bx g3 170 [(Value.func (.func 110) #[] #[(Value.pointer (some ⟨g2, 0, none⟩)), (Value.pointer (some ⟨g3, 0, none⟩))])]] ∧ RowL 9 1 M3 a6D a9k a6E ∧ K r0 y0 a9k H') noQE
def a1R (x0 : Sl) (H : Hp) (K : l9 → Hp → Prop) : Prop :=
 Ct Tryz.prog 65 [(vs x0)] H [] (fun v H' Fo => ∃ (r0 : l9) (gr0 : Nat), v = (Value.pointer (some ⟨gr0, 0, none⟩)) ∧ Fo = [bx gr0 101 (a8h r0)] ∧ K r0 H') noQE
def a7H (x0 : b6) (H : Hp) (K : Int → Hp → Prop) : Prop :=
 Ct Tryz.prog 39 [(Value.agg (b8 x0).toArray)] H [] (fun v H' Fo => ∃ (r0 : Int), v = (vi r0) ∧ Fo = [] ∧ K r0 H') noQE
def Q0 (x0 : b6) (H : Hp) (K : Int → Bool → Hp → Prop) : Prop :=
 Ct Tryz.prog 67 [(Value.agg (b8 x0).toArray)] H [] (fun v H' Fo => ∃ (r0 : Int) (r1 : Bool), v = (Value.tuple #[(vi r0), (vB r1)]) ∧ Fo = [] ∧ K r0 r1 H') noQE
def X9 (x0 : b6) (x1 : Int) (H : Hp) (K : Bool → Hp → Prop) : Prop :=
 Ct Tryz.prog 70 [(Value.agg (b8 x0).toArray), (vi x1)] H [] (fun v H' Fo => ∃ (r0 : Bool), v = (vB r0) ∧ Fo = [] ∧ K r0 H') noQE
def A9 (x0 : Sl) (H : Hp) (K : Sl → Hp → Prop) : Prop :=
 Ct Tryz.prog 66 [(vs x0), (fC 40)] H [] (fun v H' Fo => ∃ (r0 : Sl), v = (vs r0) ∧ Fo = [] ∧ K r0 H') noQE
def a3p (x0 : Int) (H : Hp) (K : b6 → Hp → Prop) : Prop :=
 Ct Tryz.prog 68 [(vi x0)] H [] (fun v H' Fo => ∃ (r0 : b6), v = (Value.agg (b8 r0).toArray) ∧ Fo = [] ∧ K r0 H') noQE
def a4G (x0 : Int) (x1 : Int) (H : Hp) (K : Int → Int → Hp → Prop) : Prop :=
 Ct Tryz.prog 114 [(vi x0), (vi x1)] H [] (fun v H' Fo => ∃ (r0 : Int) (r1 : Int), v = (Value.tuple #[(vi r0), (vi r1)]) ∧ Fo = [] ∧ K r0 r1 H') noQE
def a6F (x0 : Int) (H : Hp) (K : Int → Int → Hp → Prop) : Prop :=
 Ct Tryz.prog 112 [(vi x0)] H [] (fun v H' Fo => ∃ (r0 : Int) (r1 : Int), v = (Value.tuple #[(vi r0), (vi r1)]) ∧ Fo = [] ∧ K r0 r1 H') noQE
def a6G (x0 : Int) (x1 : Int) (H : Hp) (K : Int → Int → Hp → Prop) : Prop :=
 Ct Tryz.prog 113 [(vi x0), (vi x1)] H [] (fun v H' Fo => ∃ (r0 : Int) (r1 : Int), v = (Value.tuple #[(vi r0), (vi r1)]) ∧ Fo = [] ∧ K r0 r1 H') noQE
def a5M (x0 : Int) (H : Hp) (K : Int → Hp → Prop) : Prop :=
 Ct Tryz.prog 147 [(vi x0)] H [] (fun v H' Fo => ∃ (r0 : Int), v = (Value.int .u64 r0) ∧ Fo = [] ∧ K r0 H') noQE
def a8C (x0 : Int) (x1 : Int) (H : Hp) (K : Int → Int → Hp → Prop) : Prop :=
 Ct Tryz.prog 146 [(Value.int .u64 x0), (Value.int .u64 x1)] H [] (fun v H' Fo => ∃ (r0 : Int) (r1 : Int), v = (Value.tuple #[(Value.int .u64 r0), (Value.int .u64 r1)]) ∧ Fo = [] ∧ K r0 r1 H') noQE
def a6H (x0 : Int) (x1 : Int) (H : Hp) (K : Int → Int → Hp → Prop) : Prop :=
 Ct Tryz.prog 115 [(vi x0), (vi x1)] H [] (fun v H' Fo => ∃ (r0 : Int) (r1 : Int), v = (Value.tuple #[(vi r0), (vi r1)]) ∧ Fo = [] ∧ K r0 r1 H') noQE
def a4i (x0 : Int) (x1 : Int) (H : Hp) (K : Int → Hp → Prop) : Prop :=
 Ct Tryz.prog 148 [(vi x0), (vi x1)] H [] (fun v H' Fo => ∃ (r0 : Int), v = (vi r0) ∧ Fo = [] ∧ K r0 H') noQE
def a6I (x0 : Int) (x1 : Int) (H : Hp) (K : Int → Int → Hp → Prop) : Prop :=
 Ct Tryz.prog 116 [(vi x0), (vi x1)] H [] (fun v H' Fo => ∃ (r0 : Int) (r1 : Int), v = (Value.tuple #[(vi r0), (vi r1)]) ∧ Fo = [] ∧ K r0 r1 H') noQE
def a6J (x0 : Int) (x1 : Int) (H : Hp) (K : Int → Int → Hp → Prop) : Prop :=
 Ct Tryz.prog 117 [(vi x0), (vi x1)] H [] (fun v H' Fo => ∃ (r0 : Int) (r1 : Int), v = (Value.tuple #[(vi r0), (vi r1)]) ∧ Fo = [] ∧ K r0 r1 H') noQE
def a4j (x0 : b6) (H : Hp) (K : Int → Bool → Hp → Prop) : Prop :=
 Ct Tryz.prog 69 [(Value.agg (b8 x0).toArray)] H [] (fun v H' Fo => ∃ (r0 : Int) (r1 : Bool), v = (Value.tuple #[(vi r0), (vB r1)]) ∧ Fo = [] ∧ K r0 r1 H') noQE
def a3I (x0 : b6) (H : Hp) (K : b6 → Hp → Prop) : Prop :=
 Ct Tryz.prog 40 [(Value.agg (b8 x0).toArray)] H [] (fun v H' Fo => ∃ (r0 : b6), v = (Value.agg (b8 r0).toArray) ∧ Fo = [] ∧ K r0 H') noQE
def a6g (x0 : b6) (H : Hp) (K : b6 → Int → Hp → Prop) : Prop :=
 Ct Tryz.prog 21 [(Value.agg (b8 x0).toArray)] H [] (fun v H' Fo => ∃ (r0 : b6) (r1 : Int), v = (Value.tuple #[(Value.agg (b8 r0).toArray), (vi r1)]) ∧ Fo = [] ∧ K r0 r1 H') noQE
def a7I (x0 : b9) (H : Hp) (K : Int → Hp → Prop) : Prop :=
 Ct Tryz.prog 41 [(Value.agg (d6 x0).toArray)] H [] (fun v H' Fo => ∃ (r0 : Int), v = (vi r0) ∧ Fo = [] ∧ K r0 H') noQE
def D4 (x0 : Sl) (H : Hp) (K : Sl → Hp → Prop) : Prop :=
 Ct Tryz.prog 71 [(vs x0), (fC 42)] H [] (fun v H' Fo => ∃ (r0 : Sl), v = (vs r0) ∧ Fo = [] ∧ K r0 H') noQE
def a6h (H : Hp) (K : Hp → Prop) : Prop :=
 Ct Tryz.prog 118 [] H [] (fun v H' Fo => v = (Value.agg #[(fC 149), (fC 150), (fC 151), (fC 152), (fC 153), (fC 154), (fC 155)]) ∧ Fo = [] ∧ K H') noQE
def b9K (x0 : Int) (x1 : Int) (H : Hp) (K : Bool → Hp → Prop) : Prop :=
 Ct Tryz.prog 149 [(vi x0), (vi x1)] H [] (fun v H' Fo => ∃ (r0 : Bool), v = (vB r0) ∧ Fo = [] ∧ K r0 H') noQE
def a8u (x0 : Int) (x1 : Int) (H : Hp) (K : Bool → Hp → Prop) : Prop :=
 Ct Tryz.prog 150 [(vi x0), (vi x1)] H [] (fun v H' Fo => ∃ (r0 : Bool), v = (vB r0) ∧ Fo = [] ∧ K r0 H') noQE
def a8v (x0 : Int) (x1 : Int) (H : Hp) (K : Bool → Hp → Prop) : Prop :=
 Ct Tryz.prog 151 [(vi x0), (vi x1)] H [] (fun v H' Fo => ∃ (r0 : Bool), v = (vB r0) ∧ Fo = [] ∧ K r0 H') noQE
def a8w (x0 : Int) (x1 : Int) (H : Hp) (K : Bool → Hp → Prop) : Prop :=
 Ct Tryz.prog 152 [(vi x0), (vi x1)] H [] (fun v H' Fo => ∃ (r0 : Bool), v = (vB r0) ∧ Fo = [] ∧ K r0 H') noQE
def a8x (x0 : Int) (x1 : Int) (H : Hp) (K : Bool → Hp → Prop) : Prop :=
 Ct Tryz.prog 153 [(vi x0), (vi x1)] H [] (fun v H' Fo => ∃ (r0 : Bool), v = (vB r0) ∧ Fo = [] ∧ K r0 H') noQE
def a8y (x0 : Int) (x1 : Int) (H : Hp) (K : Bool → Hp → Prop) : Prop :=
 Ct Tryz.prog 154 [(vi x0), (vi x1)] H [] (fun v H' Fo => ∃ (r0 : Bool), v = (vB r0) ∧ Fo = [] ∧ K r0 H') noQE
def a8z (x0 : Int) (x1 : Int) (H : Hp) (K : Bool → Hp → Prop) : Prop :=
 Ct Tryz.prog 155 [(vi x0), (vi x1)] H [] (fun v H' Fo => ∃ (r0 : Bool), v = (vB r0) ∧ Fo = [] ∧ K r0 H') noQE
def a9l (x0 : Int) (x1 : Int) (x2 : Int) (H : Hp) (K : Bool → Hp → Prop) : Prop :=
 Ct Tryz.prog 73 [(vi x0), (vi x1), (vi x2)] H [] (fun v H' Fo => ∃ (r0 : Bool), v = (vB r0) ∧ Fo = [] ∧ K r0 H') noQE
def a3q (x0 : Bool) (H : Hp) (K : b9 → Hp → Prop) : Prop :=
 Ct Tryz.prog 72 [(vB x0)] H [] (fun v H' Fo => ∃ (r0 : b9), v = (Value.agg (d6 r0).toArray) ∧ Fo = [] ∧ K r0 H') noQE
def a2s (x0 : b9) (x1 : Int) (x2 : Int) (H : Hp) (K : b9 → Hp → Prop) : Prop :=
 Ct Tryz.prog 74 [(Value.agg (d6 x0).toArray), (vi x1), (vi x2)] H [] (fun v H' Fo => ∃ (r0 : b9), v = (Value.agg (d6 r0).toArray) ∧ Fo = [] ∧ K r0 H') noQE
def a3J (x0 : b9) (H : Hp) (K : b9 → Hp → Prop) : Prop :=
 Ct Tryz.prog 42 [(Value.agg (d6 x0).toArray)] H [] (fun v H' Fo => ∃ (r0 : b9), v = (Value.agg (d6 r0).toArray) ∧ Fo = [] ∧ K r0 H') noQE
def a6i (x0 : b9) (H : Hp) (K : b9 → Int → Hp → Prop) : Prop :=
 Ct Tryz.prog 23 [(Value.agg (d6 x0).toArray)] H [] (fun v H' Fo => ∃ (r0 : b9) (r1 : Int), v = (Value.tuple #[(Value.agg (d6 r0).toArray), (vi r1)]) ∧ Fo = [] ∧ K r0 r1 H') noQE
def a3U (H : Hp) (K : Bool → Hp → Prop) : Prop :=
 Ct Tryz.prog 8 [] H [] (fun v H' Fo => ∃ (r0 : Bool), v = (vB r0) ∧ Fo = [] ∧ K r0 H') noQE
def b0f (x0 : r6) (H : Hp) (K : d9 → Hp → Prop) : Prop :=
 Ct Tryz.prog 77 [(Value.agg (r9 x0).toArray)] H [] (fun v H' Fo => ∃ (r0 : d9), v = (D1 r0) ∧ Fo = [] ∧ K r0 H') noQE
def O0 (x0 : Sl) (H : Hp) (K : Sl → Hp → Prop) : Prop :=
 Ct Tryz.prog 76 [(vs x0), (fC 77)] H [] (fun v H' Fo => ∃ (r0 : Sl), v = (vs r0) ∧ Fo = [] ∧ K r0 H') noQE
def b0g (x0 : d5) (H : Hp) (K : d9 → Hp → Prop) : Prop :=
 Ct Tryz.prog 79 [(Value.agg (g7 x0).toArray)] H [] (fun v H' Fo => ∃ (r0 : d9), v = (D1 r0) ∧ Fo = [] ∧ K r0 H') noQE
def B4 (x0 : Sl) (H : Hp) (K : Sl → Hp → Prop) : Prop :=
 Ct Tryz.prog 78 [(vs x0), (fC 79)] H [] (fun v H' Fo => ∃ (r0 : Sl), v = (vs r0) ∧ Fo = [] ∧ K r0 H') noQE
def V2 (x1 : Int) (H : Hp) (K : (List d9) → Hp → Prop) : Prop :=
 Ct Tryz.prog 119 [(nS), (vi x1)] H [] (fun v H' Fo => ∃ (r0 : (List d9)) (sr0 : Sl) (Fr0 : Frag), v = (vs sr0) ∧ Fo = [Fr0] ∧ RowL 150 1 v6 sr0 r0 Fr0 ∧ K r0 H') noQE
def G2 (x0 : Sl) (H : Hp) (K : Sl → Hp → Prop) : Prop :=
 Ct Tryz.prog 75 [(vs x0)] H [] (fun v H' Fo => ∃ (r0 : Sl), v = (vs r0) ∧ Fo = [] ∧ K r0 H') noQE
def a8D (x0 : r7) (H : Hp) (K : l9 → Hp → Prop) : Prop :=
 Ct Tryz.prog 43 [(Value.agg (p8 x0).toArray)] H [] (fun v H' Fo => ∃ (r0 : l9) (gr0 : Nat), v = (Value.pointer (some ⟨gr0, 0, none⟩)) ∧ Fo = [bx gr0 101 (a8h r0)] ∧ K r0 H') noQE
def a4L (x0 : r7) (H : Hp) (K : Int → Hp → Prop) : Prop :=
 Ct Tryz.prog 24 [(Value.agg (p8 x0).toArray)] H [] (fun v H' Fo => ∃ (r0 : Int), v = (vi r0) ∧ Fo = [] ∧ K r0 H') noQE
def R4 (x0 : Sl) (H : Hp) (K : Sl → Hp → Prop) : Prop :=
 Ct Tryz.prog 44 [(vs x0)] H [] (fun v H' Fo => ∃ (r0 : Sl), v = (vs r0) ∧ Fo = [] ∧ K r0 H') noQE
def a5w (x0 : b6) (H : Hp) (K : b6 → Hp → Prop) : Prop :=
 Ct Tryz.prog 81 [(Value.agg (b8 x0).toArray)] H [] (fun v H' Fo => ∃ (r0 : b6), v = (Value.agg (b8 r0).toArray) ∧ Fo = [] ∧ K r0 H') noQE
def B0 (x0 : Sl) (H : Hp) (K : Sl → Hp → Prop) : Prop :=
 Ct Tryz.prog 80 [(vs x0), (fC 81)] H [] (fun v H' Fo => ∃ (r0 : Sl), v = (vs r0) ∧ Fo = [] ∧ K r0 H') noQE
def a5x (x0 : b9) (H : Hp) (K : b9 → Hp → Prop) : Prop :=
 Ct Tryz.prog 83 [(Value.agg (d6 x0).toArray)] H [] (fun v H' Fo => ∃ (r0 : b9), v = (Value.agg (d6 r0).toArray) ∧ Fo = [] ∧ K r0 H') noQE
def D9 (x0 : Sl) (H : Hp) (K : Sl → Hp → Prop) : Prop :=
 Ct Tryz.prog 82 [(vs x0), (fC 83)] H [] (fun v H' Fo => ∃ (r0 : Sl), v = (vs r0) ∧ Fo = [] ∧ K r0 H') noQE
def a5y (x0 : d5) (H : Hp) (K : d5 → Hp → Prop) : Prop :=
 Ct Tryz.prog 46 [(Value.agg (g7 x0).toArray)] H [] (fun v H' Fo => ∃ (r0 : d5), v = (Value.agg (g7 r0).toArray) ∧ Fo = [] ∧ K r0 H') noQE
def B1 (x0 : Sl) (H : Hp) (K : Sl → Hp → Prop) : Prop :=
 Ct Tryz.prog 45 [(vs x0), (fC 46)] H [] (fun v H' Fo => ∃ (r0 : Sl), v = (vs r0) ∧ Fo = [] ∧ K r0 H') noQE
def a7J (x0 : r7) (H : Hp) (K : r7 → Int → Hp → Prop) : Prop :=
 Ct Tryz.prog 25 [(Value.agg (p8 x0).toArray)] H [] (fun v H' Fo => ∃ (r0 : r7) (r1 : Int), v = (Value.tuple #[(Value.agg (p8 r0).toArray), (vi r1)]) ∧ Fo = [] ∧ K r0 r1 H') noQE
def N3 (x0 : Int) (x1 : d5) (H : Hp) (K : Bool → Hp → Prop) : Prop :=
 ∀ (g1 : Nat), Ct Tryz.prog 93 [(vi x0), (Value.pointer (some ⟨g1, 0, none⟩))] H [bx g1 73 (g7 x1)] (fun v H' Fo => ∃ (r0 : Bool), v = (vB r0) ∧ Fo = [bx g1 73 (g7 x1)] ∧ K r0 H') noQE
def a6j (x0 : d5) (H : Hp) (K : Sl → Hp → Prop) : Prop :=
 Ct Tryz.prog 54 [(Value.agg (g7 x0).toArray)] H [] (fun v H' Fo => ∃ (r0 : Sl), v = (vs r0) ∧ Fo = [] ∧ K r0 H') noQE
def X5 (x0 : Sl) (H : Hp) (K : Sl → Hp → Prop) : Prop :=
 Ct Tryz.prog 31 [(vs x0)] H [] (fun v H' Fo => ∃ (r0 : Sl), v = (vs r0) ∧ Fo = [] ∧ K r0 H') noQE
def a6k (x0 : r7) (H : Hp) (K : r7 → Int → Hp → Prop) : Prop :=
 Ct Tryz.prog 12 [(Value.agg (p8 x0).toArray)] H [] (fun v H' Fo => ∃ (r0 : r7) (r1 : Int), v = (Value.tuple #[(Value.agg (p8 r0).toArray), (vi r1)]) ∧ Fo = [] ∧ K r0 r1 H') noQE
def a9m (x0 : r7) (x1 : Sl) (x2 : Int) (H : Hp) (K : t8 → Int → Hp → Prop) : Prop :=
 Ct Tryz.prog 16 [(Value.agg (p8 x0).toArray), (vs x1), (vi x2)] H [] (fun v H' Fo => ∃ (r0 : t8) (r1 : Int), v = (Value.tuple #[(Value.agg (o3 r0).toArray), (vi r1)]) ∧ Fo = [] ∧ K r0 r1 H') noQE
def a1g (x0 : Sl) (x1 : Sl) (H : Hp) (K : Bool → Hp → Prop) : Prop :=
 Ct Tryz.prog 19 [(vs x0), (vs x1)] H [] (fun v H' Fo => ∃ (r0 : Bool), v = (vB r0) ∧ Fo = [] ∧ K r0 H') noQE
def a3E (x0 : t8) (x1 : t8) (H : Hp) (K : Bool → Hp → Prop) : Prop :=
 Ct Tryz.prog 18 [(Value.agg (o3 x0).toArray), (Value.agg (o3 x1).toArray)] H [] (fun v H' Fo => ∃ (r0 : Bool), v = (vB r0) ∧ Fo = [] ∧ K r0 H') noQE
def a4k (x0 : t8) (x1 : t8) (H : Hp) (K : Bool → Hp → Prop) : Prop :=
 Ct Tryz.prog 20 [(Value.agg (o3 x0).toArray), (Value.agg (o3 x1).toArray)] H [] (fun v H' Fo => ∃ (r0 : Bool), v = (vB r0) ∧ Fo = [] ∧ K r0 H') noQE
def a0U (x0 : r7) (x1 : Sl) (x2 : Int) (H : Hp) (K : Bool → Hp → Prop) : Prop :=
 Ct Tryz.prog 7 [(Value.agg (p8 x0).toArray), (vs x1), (vi x2)] H [] (fun v H' Fo => ∃ (r0 : Bool), v = (vB r0) ∧ Fo = [] ∧ K r0 H') noQE
def a8L (x0 : Sl) (H : Hp) (K : (Option Nat) → ByteArray → Int → Hp → Prop) : Prop :=
 Ct Tryz.prog 57 [(vs x0)] H [] (fun v H' Fo => ∃ (r0 : (Option Nat)) (r1 : ByteArray) (r2 : Int), v = (Value.tuple #[(Value.map r0), (Value.string r1), (vi r2)]) ∧ Fo = [] ∧ K r0 r1 r2 H') noQE
def Y1 (x0 : l7) (T2 : (List g8)) (x1 : b6) (H : Hp) (K : l7 → (List g8) → Hp → Prop) : Prop :=
 ∀ (g0 : Nat), ∀ (X0 : Sl) (a0x : Frag), RowL 127 2 z8 X0 T2 a0x → Ct Tryz.prog 102 [(Value.pointer (some ⟨g0, 0, none⟩)), (Value.agg (b8 x1).toArray)] H [bx g0 125 [(vs X0)], a0x] (fun v H' Fo => ∃ (y0 : l7) (a4H : (List g8)) (a1S : Sl) (a1T : Frag), v = (Value.tuple #[]) ∧ Fo = [bx g0 125 [(vs a1S)], a1T] ∧ RowL 127 2 z8 a1S a4H a1T ∧ K y0 a4H H') noQE
def a1h (x0 : l7) (T2 : (List g8)) (x1 : b9) (H : Hp) (K : l7 → (List g8) → Hp → Prop) : Prop :=
 ∀ (g0 : Nat), ∀ (X0 : Sl) (a0x : Frag), RowL 127 2 z8 X0 T2 a0x → Ct Tryz.prog 101 [(Value.pointer (some ⟨g0, 0, none⟩)), (Value.agg (d6 x1).toArray)] H [bx g0 125 [(vs X0)], a0x] (fun v H' Fo => ∃ (y0 : l7) (a4H : (List g8)) (a1S : Sl) (a1T : Frag), v = (Value.tuple #[]) ∧ Fo = [bx g0 125 [(vs a1S)], a1T] ∧ RowL 127 2 z8 a1S a4H a1T ∧ K y0 a4H H') noQE
def W8 (x0 : l7) (T2 : (List g8)) (x1 : Sl) (H : Hp) (K : l7 → (List g8) → Hp → Prop) : Prop :=
 ∀ (g0 : Nat), ∀ (X0 : Sl) (a0x : Frag), RowL 127 2 z8 X0 T2 a0x → Ct Tryz.prog 58 [(Value.pointer (some ⟨g0, 0, none⟩)), (vs x1)] H [bx g0 125 [(vs X0)], a0x] (fun v H' Fo => ∃ (y0 : l7) (a4H : (List g8)) (a1S : Sl) (a1T : Frag), v = (Value.tuple #[]) ∧ Fo = [bx g0 125 [(vs a1S)], a1T] ∧ RowL 127 2 z8 a1S a4H a1T ∧ K y0 a4H H') noQE
def b0F (x0 : r7) (H : Hp) (K : ByteArray → Int → Hp → Prop) : Prop :=
 Ct Tryz.prog 33 [(Value.agg (p8 x0).toArray)] H [] (fun v H' Fo => ∃ (r0 : ByteArray) (r1 : Int), v = (Value.tuple #[(Value.string r0), (vi r1)]) ∧ Fo = [] ∧ K r0 r1 H') noQE
def b1Q (x0 : r6) (H : Hp) (K : Int → Hp → Prop) : Prop :=
 Ct Tryz.prog 100 [(Value.agg (r9 x0).toArray)] H [] (fun v H' Fo => ∃ (r0 : Int), v = (vi r0) ∧ Fo = [] ∧ K r0 H') noQE
def a9M (x0 : b6) (H : Hp) (K : Int → Bool → Hp → Prop) : Prop :=
 Ct Tryz.prog 158 [(Value.agg (b8 x0).toArray)] H [] (fun v H' Fo => ∃ (r0 : Int) (r1 : Bool), v = (Value.tuple #[(vi r0), (vB r1)]) ∧ Fo = [] ∧ K r0 r1 H') noQE
def a4T (x0 : M0) (H : Hp) (K : Bool → Hp → Prop) : Prop :=
 Ct Tryz.prog 187 [(Value.agg (b8 x0.t6).toArray)] H [] (fun v H' Fo => ∃ (r0 : Bool), v = (vB r0) ∧ Fo = [] ∧ K r0 H') noQE
def b0h (x0 : b6) (H : Hp) (K : d9 → Hp → Prop) : Prop :=
 Ct Tryz.prog 190 [(Value.agg (b8 x0).toArray)] H [] (fun v H' Fo => ∃ (r0 : d9), v = (D1 r0) ∧ Fo = [] ∧ K r0 H') noQE
def B5 (x0 : Sl) (H : Hp) (K : Sl → Hp → Prop) : Prop :=
 Ct Tryz.prog 189 [(vs x0), (fC 190)] H [] (fun v H' Fo => ∃ (r0 : Sl), v = (vs r0) ∧ Fo = [] ∧ K r0 H') noQE
def a7K (x0 : M0) (H : Hp) (K : Sl → Hp → Prop) : Prop :=
 Ct Tryz.prog 188 [(Value.agg (b8 x0.t6).toArray)] H [] (fun v H' Fo => ∃ (r0 : Sl), v = (vs r0) ∧ Fo = [] ∧ K r0 H') noQE
def a4U (x0 : P1) (H : Hp) (K : Bool → Hp → Prop) : Prop :=
 Ct Tryz.prog 191 [(Value.agg (d6 x0.s7).toArray)] H [] (fun v H' Fo => ∃ (r0 : Bool), v = (vB r0) ∧ Fo = [] ∧ K r0 H') noQE
def b0i (x0 : b9) (H : Hp) (K : d9 → Hp → Prop) : Prop :=
 Ct Tryz.prog 194 [(Value.agg (d6 x0).toArray)] H [] (fun v H' Fo => ∃ (r0 : d9), v = (D1 r0) ∧ Fo = [] ∧ K r0 H') noQE
def G7 (x0 : Sl) (H : Hp) (K : Sl → Hp → Prop) : Prop :=
 Ct Tryz.prog 193 [(vs x0), (fC 194)] H [] (fun v H' Fo => ∃ (r0 : Sl), v = (vs r0) ∧ Fo = [] ∧ K r0 H') noQE
def a7L (x0 : P1) (H : Hp) (K : Sl → Hp → Prop) : Prop :=
 Ct Tryz.prog 192 [(Value.agg (d6 x0.s7).toArray)] H [] (fun v H' Fo => ∃ (r0 : Sl), v = (vs r0) ∧ Fo = [] ∧ K r0 H') noQE
def a8A (x0 : V4) (H : Hp) (K : Bool → Hp → Prop) : Prop :=
 Ct Tryz.prog 195 [(Value.agg (r9 x0.V5).toArray)] H [] (fun v H' Fo => ∃ (r0 : Bool), v = (vB r0) ∧ Fo = [] ∧ K r0 H') noQE
def a7M (x0 : V4) (H : Hp) (K : Sl → Hp → Prop) : Prop :=
 Ct Tryz.prog 196 [(Value.agg (r9 x0.V5).toArray)] H [] (fun v H' Fo => ∃ (r0 : Sl), v = (vs r0) ∧ Fo = [] ∧ K r0 H') noQE
def a4V (x0 : S4) (H : Hp) (K : Bool → Hp → Prop) : Prop :=
 Ct Tryz.prog 197 [(Value.agg (g7 x0.i7).toArray)] H [] (fun v H' Fo => ∃ (r0 : Bool), v = (vB r0) ∧ Fo = [] ∧ K r0 H') noQE
def a7N (x0 : S4) (H : Hp) (K : Sl → Hp → Prop) : Prop :=
 Ct Tryz.prog 198 [(Value.agg (g7 x0.i7).toArray)] H [] (fun v H' Fo => ∃ (r0 : Sl), v = (vs r0) ∧ Fo = [] ∧ K r0 H') noQE
def a6K (x : d9) (H : Hp) (K : Bool → Hp → Prop) : Prop := match x with
 | .nil => False
 | .K0 y => a4T y H K
 | .O2 y => a4U y H K
 | .P5 y => a8A y H K
 | .N2 y => a4V y H K
def a6l (x : d9) (H : Hp) (K : Sl → Hp → Prop) : Prop := match x with
 | .nil => False
 | .K0 y => a7K y H K
 | .O2 y => a7L y H K
 | .P5 y => a7M y H K
 | .N2 y => a7N y H K
theorem b6v {E : Pan} {w0 w : World} {ps : Nat → Prop} {H0 H : Hp} {Fr : List Frag} {K : RT} {Kc : Bool → Hp → Prop} {x : d9} (I : Inv w0 ps H0 H Fr w) (h : a6K x H Kc) (hq : ∀ (r0 : Bool) (H' : Hp) (w' : World), Inv w0 ps H0 H' Fr w' → Hle H H' → (∀ i, i < w.heap.size → ¬ inF [] i → w'.heap[i]? = w.heap[i]?) → Kc r0 H' → K (vB r0) w') : oP E (xInvoke (D1 x) "gnomon/tree.form" []) w K := by
 cases x with
 | nil => exact h.elim
 | K0 y => exact a6w (f := 187) (args := [(Value.agg (b8 y.t6).toArray)].toArray) (by kernel_rfl) (o0 (Fi := []) I h (fun v H' Fo w' I' l hk hq' => by obtain ⟨r0, rfl, rfl, hK⟩ := hq'; exact hq r0 H' w' I' l hk hK) (fun _ _ _ _ _ q => q.elim))
 | O2 y => exact a6w (f := 191) (args := [(Value.agg (d6 y.s7).toArray)].toArray) (by kernel_rfl) (o0 (Fi := []) I h (fun v H' Fo w' I' l hk hq' => by obtain ⟨r0, rfl, rfl, hK⟩ := hq'; exact hq r0 H' w' I' l hk hK) (fun _ _ _ _ _ q => q.elim))
 | P5 y => exact a6w (f := 195) (args := [(Value.agg (r9 y.V5).toArray)].toArray) (by kernel_rfl) (o0 (Fi := []) I h (fun v H' Fo w' I' l hk hq' => by obtain ⟨r0, rfl, rfl, hK⟩ := hq'; exact hq r0 H' w' I' l hk hK) (fun _ _ _ _ _ q => q.elim))
 | N2 y => exact a6w (f := 197) (args := [(Value.agg (g7 y.i7).toArray)].toArray) (by kernel_rfl) (o0 (Fi := []) I h (fun v H' Fo w' I' l hk hq' => by obtain ⟨r0, rfl, rfl, hK⟩ := hq'; exact hq r0 H' w' I' l hk hK) (fun _ _ _ _ _ q => q.elim))
theorem b5z {E : Pan} {w0 w : World} {ps : Nat → Prop} {H0 H : Hp} {Fr : List Frag} {K : RT} {Kc : Sl → Hp → Prop} {x : d9} (I : Inv w0 ps H0 H Fr w) (h : a6l x H Kc) (hq : ∀ (r0 : Sl) (H' : Hp) (w' : World), Inv w0 ps H0 H' Fr w' → Hle H H' → (∀ i, i < w.heap.size → ¬ inF [] i → w'.heap[i]? = w.heap[i]?) → Kc r0 H' → K (vs r0) w') : oP E (xInvoke (D1 x) "gnomon/tree.parts" []) w K := by
 cases x with
 | nil => exact h.elim
 | K0 y => exact a6w (f := 188) (args := [(Value.agg (b8 y.t6).toArray)].toArray) (by kernel_rfl) (o0 (Fi := []) I h (fun v H' Fo w' I' l hk hq' => by obtain ⟨r0, rfl, rfl, hK⟩ := hq'; exact hq r0 H' w' I' l hk hK) (fun _ _ _ _ _ q => q.elim))
 | O2 y => exact a6w (f := 192) (args := [(Value.agg (d6 y.s7).toArray)].toArray) (by kernel_rfl) (o0 (Fi := []) I h (fun v H' Fo w' I' l hk hq' => by obtain ⟨r0, rfl, rfl, hK⟩ := hq'; exact hq r0 H' w' I' l hk hK) (fun _ _ _ _ _ q => q.elim))
 | P5 y => exact a6w (f := 196) (args := [(Value.agg (r9 y.V5).toArray)].toArray) (by kernel_rfl) (o0 (Fi := []) I h (fun v H' Fo w' I' l hk hq' => by obtain ⟨r0, rfl, rfl, hK⟩ := hq'; exact hq r0 H' w' I' l hk hK) (fun _ _ _ _ _ q => q.elim))
 | N2 y => exact a6w (f := 198) (args := [(Value.agg (g7 y.i7).toArray)].toArray) (by kernel_rfl) (o0 (Fi := []) I h (fun v H' Fo w' I' l hk hq' => by obtain ⟨r0, rfl, rfl, hK⟩ := hq'; exact hq r0 H' w' I' l hk hK) (fun _ _ _ _ _ q => q.elim))
end Go.Proofs.YtnhkdkcgdcgmdaaGreatDoor
