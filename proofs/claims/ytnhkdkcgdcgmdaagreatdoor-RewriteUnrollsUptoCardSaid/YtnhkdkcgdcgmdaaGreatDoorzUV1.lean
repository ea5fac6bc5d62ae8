/- Contracts of the program's functions; printed by lift.py off the code. -/
import Derived.Test.YtnhkdkcgdcgmdaaGreatDoorzUU1
import Derived.Test.YtnhkdkcgdcgmdaaGreatDoorzUG1a
namespace Go.Proofs.YtnhkdkcgdcgmdaaGreatDoor
open Go.RowKit
set_option maxRecDepth 100000
set_option maxHeartbeats 2000000
def a0b (x0 : Int) (H : Hp) (K : a8 → Hp → Prop) : Prop :=
 Ct Tryz.prog 22 [(vi x0)] H [] (fun v H' Fo => ∃ (r0 : a8), v = (Value.agg (b8 r0).toArray) ∧ Fo = [] ∧ K r0 H') noQE
def a6I (x0 : g8) (H : Hp) (K : ByteArray → Bool → Hp → Prop) : Prop :=
 Ct Tryz.prog 143 [(E8 x0)] H [] (fun v H' Fo => ∃ (r0 : ByteArray) (r1 : Bool), v = (Value.tuple #[(Value.string r0), (vB r1)]) ∧ Fo = [] ∧ K r0 r1 H') noQE
def R8 (x0 : Int) (x1 : Int) (x2 : Int) (H : Hp) (K : Bool → Hp → Prop) : Prop :=
 ∀ (g2 : Nat), Ct Tryz.prog 170 [(Value.int .i32 x0), (Value.int .i32 x1), (Value.pointer (some ⟨g2, 0, none⟩))] H [bx g2 21 [(Value.int .i32 x2)]] (fun v H' Fo => ∃ (r0 : Bool), v = (vB r0) ∧ Fo = [bx g2 21 [(Value.int .i32 x2)]] ∧ K r0 H') noQE
def a8j (x0 : Int) (H : Hp) (K : Int → Hp → Prop) : Prop :=
 Ct Tryz.prog 166 [(Value.int .i32 x0)] H [] (fun v H' Fo => ∃ (r0 : Int), v = (vi r0) ∧ Fo = [] ∧ K r0 H') noQE
def b0X (x0 : Int) (H : Hp) (K : Bool → Hp → Prop) : Prop :=
 Ct Tryz.prog 165 [(Value.int .i32 x0)] H [] (fun v H' Fo => ∃ (r0 : Bool), v = (vB r0) ∧ Fo = [] ∧ K r0 H') noQE
def b0S (x0 : ByteArray) (H : Hp) (K : Bool → Hp → Prop) : Prop :=
 Ct Tryz.prog 162 [(Value.string x0)] H [] (fun v H' Fo => ∃ (r0 : Bool), v = (vB r0) ∧ Fo = [] ∧ K r0 H') noQE
def a4d (x0 : ByteArray) (H : Hp) (K : Int → Hp → Prop) : Prop :=
 Ct Tryz.prog 169 [(Value.string x0)] H [] (fun v H' Fo => ∃ (r0 : Int), v = (vi r0) ∧ Fo = [] ∧ K r0 H') noQE
def a9w (x0 : ByteArray) (H : Hp) (K : Bool → Hp → Prop) : Prop :=
 Ct Tryz.prog 163 [(Value.string x0)] H [] (fun v H' Fo => ∃ (r0 : Bool), v = (vB r0) ∧ Fo = [] ∧ K r0 H') noQE
def a7h (x0 : ByteArray) (H : Hp) (K : Bool → Hp → Prop) : Prop :=
 Ct Tryz.prog 164 [(Value.string x0)] H [] (fun v H' Fo => ∃ (r0 : Bool), v = (vB r0) ∧ Fo = [] ∧ K r0 H') noQE
def a9x (x0 : ByteArray) (H : Hp) (K : Bool → Hp → Prop) : Prop :=
 Ct Tryz.prog 144 [(Value.string x0)] H [] (fun v H' Fo => ∃ (r0 : Bool), v = (vB r0) ∧ Fo = [] ∧ K r0 H') noQE
def a5V (x0 : (List ByteArray)) (x1 : ByteArray) (H : Hp) (K : Int → Hp → Prop) : Prop :=
 ∀ (sx0 : Sl) (Fx0 : Frag), RowL 9 1 O8 sx0 x0 Fx0 → Ct Tryz.prog 167 [(vs sx0), (Value.string x1)] H [Fx0] (fun v H' Fo => ∃ (r0 : Int), v = (vi r0) ∧ Fo = [Fx0] ∧ K r0 H') noQE
def V3 (x0 : (List ByteArray)) (x1 : ByteArray) (H : Hp) (K : Bool → Hp → Prop) : Prop :=
 ∀ (sx0 : Sl) (Fx0 : Frag), RowL 9 1 O8 sx0 x0 Fx0 → Ct Tryz.prog 145 [(vs sx0), (Value.string x1)] H [Fx0] (fun v H' Fo => ∃ (r0 : Bool), v = (vB r0) ∧ Fo = [Fx0] ∧ K r0 H') noQE
def a7a (x0 : m7) (a4e : (List ByteArray)) (x1 : g8) (x2 : Int) (H : Hp) (K : Bool → m7 → (List ByteArray) → Hp → Prop) : Prop :=
 ∀ (g0 : Nat), ∀ (a3J : Sl) (a8O : Frag), RowL 9 1 O8 a3J a4e a8O → Ct Tryz.prog 111 [(Value.pointer (some ⟨g0, 0, none⟩)), (E8 x1), (vi x2)] H [bx g0 101 [(vi x0.fnodes), (vi x0.fdepth), (vi x0.fe), (vB x0.fform), (vB x0.fnamed), (vs a3J)], a8O] (fun v H' Fo => ∃ (r0 : Bool) (y0 : m7) (b3d : (List ByteArray)) (b0e : Sl) (b0f : Frag), v = (vB r0) ∧ Fo = [bx g0 101 [(vi y0.fnodes), (vi y0.fdepth), (vi y0.fe), (vB y0.fform), (vB y0.fnamed), (vs b0e)], b0f] ∧ RowL 9 1 O8 b0e b3d b0f ∧ K r0 y0 b3d H') noQE
def a3P (x0 : Sl) (x1 : Int) (x2 : m7) (b8I : (List ByteArray)) (H : Hp) (K : Bool → m7 → (List ByteArray) → Hp → Prop) : Prop :=
 ∀ (g2 g2b g3 : Nat), ∀ (c0u : Sl) (c0v : Frag), RowL 9 1 O8 c0u b8I c0v → Ct Tryz.prog 110 [(vs x0), (vi x1), (Value.pointer (some ⟨g2, 0, none⟩)), (Value.pointer (some ⟨g3, 0, none⟩))] H [bx g2 102 [(Value.pointer (some ⟨g2b, 0, none⟩))], bx g2b 101 [(vi x2.fnodes), (vi x2.fdepth), (vi x2.fe), (vB x2.fform), (vB x2.fnamed), (vs c0u)], c0v, bx g3 170 [(Value.func (.func 110) #[] #[(Value.pointer (some ⟨g2, 0, none⟩)), (Value.pointer (some ⟨g3, 0, none⟩))])]] (fun v H' Fo => ∃ (r0 : Bool) (y0 : m7) (b3d : (List ByteArray)) (b0e : Sl) (b0f : Frag), v = (vB r0) ∧ Fo = [bx g2 102 [(Value.pointer (some ⟨g2b, 0, none⟩))], bx g2b 101 [(vi y0.fnodes), (vi y0.fdepth), (vi y0.fe), (vB y0.fform), (vB y0.fnamed), (vs b0e)], b0f, bx g3 170 [(Value.func (.func 110) #[] #[(Value.pointer (some ⟨g2, 0, none⟩)), (Value.pointer (some ⟨g3, 0, none⟩))])]] ∧ RowL 9 1 O8 b0e b3d b0f ∧ K r0 y0 b3d H') noQE
def a4T (x0 : Sl) (H : Hp) (K : m7 → Hp → Prop) : Prop :=
 Ct Tryz.prog 65 [(vs x0)] H [] (fun v H' Fo => ∃ (r0 : m7) (gr0 : Nat), v = (Value.pointer (some ⟨gr0, 0, none⟩)) ∧ Fo = [bx gr0 101 (b1Y r0)] ∧ K r0 H') noQE
def b1q (x0 : a8) (H : Hp) (K : Int → Hp → Prop) : Prop :=
 Ct Tryz.prog 39 [(Value.agg (b8 x0).toArray)] H [] (fun v H' Fo => ∃ (r0 : Int), v = (vi r0) ∧ Fo = [] ∧ K r0 H') noQE
def T0 (x0 : a8) (H : Hp) (K : Int → Bool → Hp → Prop) : Prop :=
 Ct Tryz.prog 67 [(Value.agg (b8 x0).toArray)] H [] (fun v H' Fo => ∃ (r0 : Int) (r1 : Bool), v = (Value.tuple #[(vi r0), (vB r1)]) ∧ Fo = [] ∧ K r0 r1 H') noQE
def a1V (x0 : a8) (x1 : Int) (H : Hp) (K : Bool → Hp → Prop) : Prop :=
 Ct Tryz.prog 70 [(Value.agg (b8 x0).toArray), (vi x1)] H [] (fun v H' Fo => ∃ (r0 : Bool), v = (vB r0) ∧ Fo = [] ∧ K r0 H') noQE
def G4 (x0 : Sl) (H : Hp) (K : Sl → Hp → Prop) : Prop :=
 Ct Tryz.prog 66 [(vs x0), (fC 40)] H [] (fun v H' Fo => ∃ (r0 : Sl), v = (vs r0) ∧ Fo = [] ∧ K r0 H') noQE
def a6t (x0 : Int) (H : Hp) (K : a8 → Hp → Prop) : Prop :=
 Ct Tryz.prog 68 [(vi x0)] H [] (fun v H' Fo => ∃ (r0 : a8), v = (Value.agg (b8 r0).toArray) ∧ Fo = [] ∧ K r0 H') noQE
def a7Z (x0 : Int) (x1 : Int) (H : Hp) (K : Int → Int → Hp → Prop) : Prop :=
 Ct Tryz.prog 114 [(vi x0), (vi x1)] H [] (fun v H' Fo => ∃ (r0 : Int) (r1 : Int), v = (Value.tuple #[(vi r0), (vi r1)]) ∧ Fo = [] ∧ K r0 r1 H') noQE
def b0g (x0 : Int) (H : Hp) (K : Int → Int → Hp → Prop) : Prop :=
 Ct Tryz.prog 112 [(vi x0)] H [] (fun v H' Fo => ∃ (r0 : Int) (r1 : Int), v = (Value.tuple #[(vi r0), (vi r1)]) ∧ Fo = [] ∧ K r0 r1 H') noQE
def b0h (x0 : Int) (x1 : Int) (H : Hp) (K : Int → Int → Hp → Prop) : Prop :=
 Ct Tryz.prog 113 [(vi x0), (vi x1)] H [] (fun v H' Fo => ∃ (r0 : Int) (r1 : Int), v = (Value.tuple #[(vi r0), (vi r1)]) ∧ Fo = [] ∧ K r0 r1 H') noQE
def a9y (x0 : Int) (H : Hp) (K : Int → Hp → Prop) : Prop :=
 Ct Tryz.prog 147 [(vi x0)] H [] (fun v H' Fo => ∃ (r0 : Int), v = (Value.int .u64 r0) ∧ Fo = [] ∧ K r0 H') noQE
def b2A (x0 : Int) (x1 : Int) (H : Hp) (K : Int → Int → Hp → Prop) : Prop :=
 Ct Tryz.prog 146 [(Value.int .u64 x0), (Value.int .u64 x1)] H [] (fun v H' Fo => ∃ (r0 : Int) (r1 : Int), v = (Value.tuple #[(Value.int .u64 r0), (Value.int .u64 r1)]) ∧ Fo = [] ∧ K r0 r1 H') noQE
def b0i (x0 : Int) (x1 : Int) (H : Hp) (K : Int → Int → Hp → Prop) : Prop :=
 Ct Tryz.prog 115 [(vi x0), (vi x1)] H [] (fun v H' Fo => ∃ (r0 : Int) (r1 : Int), v = (Value.tuple #[(vi r0), (vi r1)]) ∧ Fo = [] ∧ K r0 r1 H') noQE
def a7o (x0 : Int) (x1 : Int) (H : Hp) (K : Int → Hp → Prop) : Prop :=
 Ct Tryz.prog 148 [(vi x0), (vi x1)] H [] (fun v H' Fo => ∃ (r0 : Int), v = (vi r0) ∧ Fo = [] ∧ K r0 H') noQE
def b0j (x0 : Int) (x1 : Int) (H : Hp) (K : Int → Int → Hp → Prop) : Prop :=
 Ct Tryz.prog 116 [(vi x0), (vi x1)] H [] (fun v H' Fo => ∃ (r0 : Int) (r1 : Int), v = (Value.tuple #[(vi r0), (vi r1)]) ∧ Fo = [] ∧ K r0 r1 H') noQE
def b0k (x0 : Int) (x1 : Int) (H : Hp) (K : Int → Int → Hp → Prop) : Prop :=
 Ct Tryz.prog 117 [(vi x0), (vi x1)] H [] (fun v H' Fo => ∃ (r0 : Int) (r1 : Int), v = (Value.tuple #[(vi r0), (vi r1)]) ∧ Fo = [] ∧ K r0 r1 H') noQE
def a7p (x0 : a8) (H : Hp) (K : Int → Bool → Hp → Prop) : Prop :=
 Ct Tryz.prog 69 [(Value.agg (b8 x0).toArray)] H [] (fun v H' Fo => ∃ (r0 : Int) (r1 : Bool), v = (Value.tuple #[(vi r0), (vB r1)]) ∧ Fo = [] ∧ K r0 r1 H') noQE
def a6P (x0 : a8) (H : Hp) (K : a8 → Hp → Prop) : Prop :=
 Ct Tryz.prog 40 [(Value.agg (b8 x0).toArray)] H [] (fun v H' Fo => ∃ (r0 : a8), v = (Value.agg (b8 r0).toArray) ∧ Fo = [] ∧ K r0 H') noQE
def a9L (x0 : a8) (H : Hp) (K : a8 → Int → Hp → Prop) : Prop :=
 Ct Tryz.prog 21 [(Value.agg (b8 x0).toArray)] H [] (fun v H' Fo => ∃ (r0 : a8) (r1 : Int), v = (Value.tuple #[(Value.agg (b8 r0).toArray), (vi r1)]) ∧ Fo = [] ∧ K r0 r1 H') noQE
def b1r (x0 : b7) (H : Hp) (K : Int → Hp → Prop) : Prop :=
 Ct Tryz.prog 41 [(Value.agg (d8 x0).toArray)] H [] (fun v H' Fo => ∃ (r0 : Int), v = (vi r0) ∧ Fo = [] ∧ K r0 H') noQE
def O6 (x0 : Sl) (H : Hp) (K : Sl → Hp → Prop) : Prop :=
 Ct Tryz.prog 71 [(vs x0), (fC 42)] H [] (fun v H' Fo => ∃ (r0 : Sl), v = (vs r0) ∧ Fo = [] ∧ K r0 H') noQE
def a9M (H : Hp) (K : Hp → Prop) : Prop :=
 Ct Tryz.prog 118 [] H [] (fun v H' Fo => v = (Value.agg #[(fC 149), (fC 150), (fC 151), (fC 152), (fC 153), (fC 154), (fC 155)]) ∧ Fo = [] ∧ K H') noQE
def c5D (x0 : Int) (x1 : Int) (H : Hp) (K : Bool → Hp → Prop) : Prop :=
 Ct Tryz.prog 149 [(vi x0), (vi x1)] H [] (fun v H' Fo => ∃ (r0 : Bool), v = (vB r0) ∧ Fo = [] ∧ K r0 H') noQE
def b2p (x0 : Int) (x1 : Int) (H : Hp) (K : Bool → Hp → Prop) : Prop :=
 Ct Tryz.prog 150 [(vi x0), (vi x1)] H [] (fun v H' Fo => ∃ (r0 : Bool), v = (vB r0) ∧ Fo = [] ∧ K r0 H') noQE
def b2q (x0 : Int) (x1 : Int) (H : Hp) (K : Bool → Hp → Prop) : Prop :=
 Ct Tryz.prog 151 [(vi x0), (vi x1)] H [] (fun v H' Fo => ∃ (r0 : Bool), v = (vB r0) ∧ Fo = [] ∧ K r0 H') noQE
def b2r (x0 : Int) (x1 : Int) (H : Hp) (K : Bool → Hp → Prop) : Prop :=
 Ct Tryz.prog 152 [(vi x0), (vi x1)] H [] (fun v H' Fo => ∃ (r0 : Bool), v = (vB r0) ∧ Fo = [] ∧ K r0 H') noQE
def b2s (x0 : Int) (x1 : Int) (H : Hp) (K : Bool → Hp → Prop) : Prop :=
 Ct Tryz.prog 153 [(vi x0), (vi x1)] H [] (fun v H' Fo => ∃ (r0 : Bool), v = (vB r0) ∧ Fo = [] ∧ K r0 H') noQE
def b2t (x0 : Int) (x1 : Int) (H : Hp) (K : Bool → Hp → Prop) : Prop :=
 Ct Tryz.prog 154 [(vi x0), (vi x1)] H [] (fun v H' Fo => ∃ (r0 : Bool), v = (vB r0) ∧ Fo = [] ∧ K r0 H') noQE
def b2u (x0 : Int) (x1 : Int) (H : Hp) (K : Bool → Hp → Prop) : Prop :=
 Ct Tryz.prog 155 [(vi x0), (vi x1)] H [] (fun v H' Fo => ∃ (r0 : Bool), v = (vB r0) ∧ Fo = [] ∧ K r0 H') noQE
def b3e (x0 : Int) (x1 : Int) (x2 : Int) (H : Hp) (K : Bool → Hp → Prop) : Prop :=
 Ct Tryz.prog 73 [(vi x0), (vi x1), (vi x2)] H [] (fun v H' Fo => ∃ (r0 : Bool), v = (vB r0) ∧ Fo = [] ∧ K r0 H') noQE
def a6u (x0 : Bool) (H : Hp) (K : b7 → Hp → Prop) : Prop :=
 Ct Tryz.prog 72 [(vB x0)] H [] (fun v H' Fo => ∃ (r0 : b7), v = (Value.agg (d8 r0).toArray) ∧ Fo = [] ∧ K r0 H') noQE
def a5x (x0 : b7) (x1 : Int) (x2 : Int) (H : Hp) (K : b7 → Hp → Prop) : Prop :=
 Ct Tryz.prog 74 [(Value.agg (d8 x0).toArray), (vi x1), (vi x2)] H [] (fun v H' Fo => ∃ (r0 : b7), v = (Value.agg (d8 r0).toArray) ∧ Fo = [] ∧ K r0 H') noQE
def a6Q (x0 : b7) (H : Hp) (K : b7 → Hp → Prop) : Prop :=
 Ct Tryz.prog 42 [(Value.agg (d8 x0).toArray)] H [] (fun v H' Fo => ∃ (r0 : b7), v = (Value.agg (d8 r0).toArray) ∧ Fo = [] ∧ K r0 H') noQE
def a9N (x0 : b7) (H : Hp) (K : b7 → Int → Hp → Prop) : Prop :=
 Ct Tryz.prog 23 [(Value.agg (d8 x0).toArray)] H [] (fun v H' Fo => ∃ (r0 : b7) (r1 : Int), v = (Value.tuple #[(Value.agg (d8 r0).toArray), (vi r1)]) ∧ Fo = [] ∧ K r0 r1 H') noQE
def a7b (H : Hp) (K : Bool → Hp → Prop) : Prop :=
 Ct Tryz.prog 8 [] H [] (fun v H' Fo => ∃ (r0 : Bool), v = (vB r0) ∧ Fo = [] ∧ K r0 H') noQE
def b4q (x0 : E0) (H : Hp) (K : g8 → Hp → Prop) : Prop :=
 Ct Tryz.prog 77 [(Value.agg (w6 x0).toArray)] H [] (fun v H' Fo => ∃ (r0 : g8), v = (E8 r0) ∧ Fo = [] ∧ K r0 H') noQE
def Q4 (x0 : Sl) (H : Hp) (K : Sl → Hp → Prop) : Prop :=
 Ct Tryz.prog 76 [(vs x0), (fC 77)] H [] (fun v H' Fo => ∃ (r0 : Sl), v = (vs r0) ∧ Fo = [] ∧ K r0 H') noQE
def b4r (x0 : d6) (H : Hp) (K : g8 → Hp → Prop) : Prop :=
 Ct Tryz.prog 79 [(Value.agg (d9 x0).toArray)] H [] (fun v H' Fo => ∃ (r0 : g8), v = (E8 r0) ∧ Fo = [] ∧ K r0 H') noQE
def C4 (x0 : Sl) (H : Hp) (K : Sl → Hp → Prop) : Prop :=
 Ct Tryz.prog 78 [(vs x0), (fC 79)] H [] (fun v H' Fo => ∃ (r0 : Sl), v = (vs r0) ∧ Fo = [] ∧ K r0 H') noQE
def a0v (x1 : Int) (H : Hp) (K : (List g8) → Hp → Prop) : Prop :=
 Ct Tryz.prog 119 [(nS), (vi x1)] H [] (fun v H' Fo => ∃ (r0 : (List g8)) (sr0 : Sl) (Fr0 : Frag), v = (vs sr0) ∧ Fo = [Fr0] ∧ RowL 150 1 v8 sr0 r0 Fr0 ∧ K r0 H') noQE
def J5 (x0 : Sl) (H : Hp) (K : Sl → Hp → Prop) : Prop :=
 Ct Tryz.prog 75 [(vs x0)] H [] (fun v H' Fo => ∃ (r0 : Sl), v = (vs r0) ∧ Fo = [] ∧ K r0 H') noQE
def b2B (x0 : g7) (H : Hp) (K : m7 → Hp → Prop) : Prop :=
 Ct Tryz.prog 43 [(Value.agg (i5 x0).toArray)] H [] (fun v H' Fo => ∃ (r0 : m7) (gr0 : Nat), v = (Value.pointer (some ⟨gr0, 0, none⟩)) ∧ Fo = [bx gr0 101 (b1Y r0)] ∧ K r0 H') noQE
def a8k (x0 : g7) (H : Hp) (K : Int → Hp → Prop) : Prop :=
 Ct Tryz.prog 24 [(Value.agg (i5 x0).toArray)] H [] (fun v H' Fo => ∃ (r0 : Int), v = (vi r0) ∧ Fo = [] ∧ K r0 H') noQE
def T1 (x0 : Sl) (x1 : Int) (H : Hp) (K : Sl → Hp → Prop) : Prop :=
 Ct Tryz.prog 26 [(vs x0), (vi x1)] H [] (fun v H' Fo => ∃ (r0 : Sl), v = (vs r0) ∧ Fo = [] ∧ K r0 H') noQE
def V9 (x0 : Sl) (H : Hp) (K : Sl → Hp → Prop) : Prop :=
 Ct Tryz.prog 44 [(vs x0)] H [] (fun v H' Fo => ∃ (r0 : Sl), v = (vs r0) ∧ Fo = [] ∧ K r0 H') noQE
def a9f (x0 : a8) (H : Hp) (K : a8 → Hp → Prop) : Prop :=
 Ct Tryz.prog 81 [(Value.agg (b8 x0).toArray)] H [] (fun v H' Fo => ∃ (r0 : a8), v = (Value.agg (b8 r0).toArray) ∧ Fo = [] ∧ K r0 H') noQE
def B6 (x0 : Sl) (H : Hp) (K : Sl → Hp → Prop) : Prop :=
 Ct Tryz.prog 80 [(vs x0), (fC 81)] H [] (fun v H' Fo => ∃ (r0 : Sl), v = (vs r0) ∧ Fo = [] ∧ K r0 H') noQE
def a9g (x0 : b7) (H : Hp) (K : b7 → Hp → Prop) : Prop :=
 Ct Tryz.prog 83 [(Value.agg (d8 x0).toArray)] H [] (fun v H' Fo => ∃ (r0 : b7), v = (Value.agg (d8 r0).toArray) ∧ Fo = [] ∧ K r0 H') noQE
def G9 (x0 : Sl) (H : Hp) (K : Sl → Hp → Prop) : Prop :=
 Ct Tryz.prog 82 [(vs x0), (fC 83)] H [] (fun v H' Fo => ∃ (r0 : Sl), v = (vs r0) ∧ Fo = [] ∧ K r0 H') noQE
def a9h (x0 : d6) (H : Hp) (K : d6 → Hp → Prop) : Prop :=
 Ct Tryz.prog 46 [(Value.agg (d9 x0).toArray)] H [] (fun v H' Fo => ∃ (r0 : d6), v = (Value.agg (d9 r0).toArray) ∧ Fo = [] ∧ K r0 H') noQE
def B7 (x0 : Sl) (H : Hp) (K : Sl → Hp → Prop) : Prop :=
 Ct Tryz.prog 45 [(vs x0), (fC 46)] H [] (fun v H' Fo => ∃ (r0 : Sl), v = (vs r0) ∧ Fo = [] ∧ K r0 H') noQE
def b1s (x0 : g7) (H : Hp) (K : g7 → Int → Hp → Prop) : Prop :=
 Ct Tryz.prog 25 [(Value.agg (i5 x0).toArray)] H [] (fun v H' Fo => ∃ (r0 : g7) (r1 : Int), v = (Value.tuple #[(Value.agg (i5 r0).toArray), (vi r1)]) ∧ Fo = [] ∧ K r0 r1 H') noQE
def a8u (x0 : g7) (x1 : Int) (H : Hp) (K : g7 → Int → Hp → Prop) : Prop :=
 Ct Tryz.prog 9 [(Value.agg (i5 x0).toArray), (vi x1)] H [] (fun v H' Fo => ∃ (r0 : g7) (r1 : Int), v = (Value.tuple #[(Value.agg (i5 r0).toArray), (vi r1)]) ∧ Fo = [] ∧ K r0 r1 H') noQE
def a5t (x0 : b9) (H : Hp) (K : Int → Hp → Prop) : Prop :=
 Ct Tryz.prog 50 [(Value.agg (k3 x0).toArray)] H [] (fun v H' Fo => ∃ (r0 : Int), v = (vi r0) ∧ Fo = [] ∧ K r0 H') noQE
def a8a (x0 : ByteArray) (x1 : Int) (H : Hp) (K : Int → Int → Bool → Hp → Prop) : Prop :=
 Ct Tryz.prog 123 [(Value.string x0), (vi x1)] H [] (fun v H' Fo => ∃ (r0 : Int) (r1 : Int) (r2 : Bool), v = (Value.tuple #[(vi r0), (vi r1), (vB r2)]) ∧ Fo = [] ∧ K r0 r1 r2 H') noQE
def A0 (x0 : Int) (x1 : Int) (x2 : Int) (H : Hp) (K : Bool → Hp → Prop) : Prop :=
 Ct Tryz.prog 156 [(vi x0), (vi x1), (vi x2)] H [] (fun v H' Fo => ∃ (r0 : Bool), v = (vB r0) ∧ Fo = [] ∧ K r0 H') noQE
def a7q (x0 : Int) (H : Hp) (K : Int → Hp → Prop) : Prop :=
 Ct Tryz.prog 124 [(vi x0)] H [] (fun v H' Fo => ∃ (r0 : Int), v = (vi r0) ∧ Fo = [] ∧ K r0 H') noQE
def a8b (x0 : ByteArray) (H : Hp) (K : Bool → Hp → Prop) : Prop :=
 Ct Tryz.prog 122 [(Value.string x0)] H [] (fun v H' Fo => ∃ (r0 : Bool), v = (vB r0) ∧ Fo = [] ∧ K r0 H') noQE
def a4U (x0 : ByteArray) (H : Hp) (K : Bool → Hp → Prop) : Prop :=
 Ct Tryz.prog 86 [(Value.string x0)] H [] (fun v H' Fo => ∃ (r0 : Bool), v = (vB r0) ∧ Fo = [] ∧ K r0 H') noQE
def Y5 (x0 : b9) (x1 : ByteArray) (x2 : Bool) (H : Hp) (K : b9 → Hp → Prop) : Prop :=
 ∀ (g0 : Nat), Ct Tryz.prog 48 [(Value.pointer (some ⟨g0, 0, none⟩)), (Value.string x1), (vB x2)] H [bx g0 111 (k3 x0)] (fun v H' Fo => ∃ (y0 : b9), v = (Value.tuple #[]) ∧ Fo = [bx g0 111 (k3 y0)] ∧ K y0 H') noQE
def Y6 (x0 : b9) (x1 : a8) (H : Hp) (K : b9 → Hp → Prop) : Prop :=
 ∀ (g0 : Nat), Ct Tryz.prog 88 [(Value.pointer (some ⟨g0, 0, none⟩)), (Value.agg (b8 x1).toArray)] H [bx g0 111 (k3 x0)] (fun v H' Fo => ∃ (y0 : b9), v = (Value.tuple #[]) ∧ Fo = [bx g0 111 (k3 y0)] ∧ K y0 H') noQE
def a2s (x0 : b9) (x1 : b7) (H : Hp) (K : b9 → Hp → Prop) : Prop :=
 ∀ (g0 : Nat), Ct Tryz.prog 87 [(Value.pointer (some ⟨g0, 0, none⟩)), (Value.agg (d8 x1).toArray)] H [bx g0 111 (k3 x0)] (fun v H' Fo => ∃ (y0 : b9), v = (Value.tuple #[]) ∧ Fo = [bx g0 111 (k3 y0)] ∧ K y0 H') noQE
def Y7 (x0 : b9) (x1 : d6) (H : Hp) (K : b9 → Hp → Prop) : Prop :=
 ∀ (g0 : Nat), Ct Tryz.prog 49 [(Value.pointer (some ⟨g0, 0, none⟩)), (Value.agg (d9 x1).toArray)] H [bx g0 111 (k3 x0)] (fun v H' Fo => ∃ (y0 : b9), v = (Value.tuple #[]) ∧ Fo = [bx g0 111 (k3 y0)] ∧ K y0 H') noQE
def S8 (x0 : d5) (x1 : Int) (H : Hp) (K : Bool → d5 → Hp → Prop) : Prop :=
 ∀ (g0 : Nat), Ct Tryz.prog 84 [(Value.pointer (some ⟨g0, 0, none⟩)), (vi x1)] H [bx g0 108 (i7 x0)] (fun v H' Fo => ∃ (r0 : Bool) (y0 : d5), v = (vB r0) ∧ Fo = [bx g0 108 (i7 y0)] ∧ K r0 y0 H') noQE
def Y8 (x0 : d5) (x1 : a8) (x2 : Int) (H : Hp) (K : d5 → Hp → Prop) : Prop :=
 ∀ (g0 : Nat), Ct Tryz.prog 121 [(Value.pointer (some ⟨g0, 0, none⟩)), (Value.agg (b8 x1).toArray), (vi x2)] H [bx g0 108 (i7 x0)] (fun v H' Fo => ∃ (y0 : d5), v = (Value.tuple #[]) ∧ Fo = [bx g0 108 (i7 y0)] ∧ K y0 H') noQE
def a2t (x0 : d5) (x1 : b7) (x2 : Int) (H : Hp) (K : d5 → Hp → Prop) : Prop :=
 ∀ (g0 : Nat), Ct Tryz.prog 120 [(Value.pointer (some ⟨g0, 0, none⟩)), (Value.agg (d8 x1).toArray), (vi x2)] H [bx g0 108 (i7 x0)] (fun v H' Fo => ∃ (y0 : d5), v = (Value.tuple #[]) ∧ Fo = [bx g0 108 (i7 y0)] ∧ K y0 H') noQE
def Y9 (x0 : d5) (x1 : d6) (x2 : Int) (H : Hp) (K : d5 → Hp → Prop) : Prop :=
 ∀ (g0 : Nat), Ct Tryz.prog 85 [(Value.pointer (some ⟨g0, 0, none⟩)), (Value.agg (d9 x1).toArray), (vi x2)] H [bx g0 108 (i7 x0)] (fun v H' Fo => ∃ (y0 : d5), v = (Value.tuple #[]) ∧ Fo = [bx g0 108 (i7 y0)] ∧ K y0 H') noQE
def a3S (x0 : g7) (H : Hp) (K : d5 → Hp → Prop) : Prop :=
 Ct Tryz.prog 47 [(Value.agg (i5 x0).toArray)] H [] (fun v H' Fo => ∃ (r0 : d5), v = (Value.agg (i7 r0).toArray) ∧ Fo = [] ∧ K r0 H') noQE
def a4l (x0 : g7) (H : Hp) (K : Int → Hp → Prop) : Prop :=
 Ct Tryz.prog 27 [(Value.agg (i5 x0).toArray)] H [] (fun v H' Fo => ∃ (r0 : Int), v = (vi r0) ∧ Fo = [] ∧ K r0 H') noQE
def a1u (x0 : a8) (H : Hp) (K : Int → Hp → Prop) : Prop :=
 Ct Tryz.prog 91 [(Value.agg (b8 x0).toArray)] H [] (fun v H' Fo => ∃ (r0 : Int), v = (vi r0) ∧ Fo = [] ∧ K r0 H') noQE
def a0d (x0 : a8) (H : Hp) (K : a8 → Hp → Prop) : Prop :=
 Ct Tryz.prog 92 [(Value.agg (b8 x0).toArray)] H [] (fun v H' Fo => ∃ (r0 : a8), v = (Value.agg (b8 r0).toArray) ∧ Fo = [] ∧ K r0 H') noQE
def a2d (x0 : b7) (H : Hp) (K : Int → Hp → Prop) : Prop :=
 Ct Tryz.prog 89 [(Value.agg (d8 x0).toArray)] H [] (fun v H' Fo => ∃ (r0 : Int), v = (vi r0) ∧ Fo = [] ∧ K r0 H') noQE
def a3f (x0 : b7) (H : Hp) (K : b7 → Hp → Prop) : Prop :=
 Ct Tryz.prog 90 [(Value.agg (d8 x0).toArray)] H [] (fun v H' Fo => ∃ (r0 : b7), v = (Value.agg (d8 r0).toArray) ∧ Fo = [] ∧ K r0 H') noQE
def Z3 (x0 : g9) (x1 : d6) (x2 : Int) (H : Hp) (K : d6 → g9 → Hp → Prop) : Prop :=
 ∀ (g0 : Nat), Ct Tryz.prog 51 [(Value.pointer (some ⟨g0, 0, none⟩)), (Value.agg (d9 x1).toArray), (vi x2)] H [bx g0 67 (q9 x0)] (fun v H' Fo => ∃ (r0 : d6) (y0 : g9), v = (Value.agg (d9 r0).toArray) ∧ Fo = [bx g0 67 (q9 y0)] ∧ K r0 y0 H') noQE
def R9 (x0 : g9) (x1 : Sl) (H : Hp) (K : (List d6) → g9 → Hp → Prop) : Prop :=
 ∀ (g0 : Nat), Ct Tryz.prog 28 [(Value.pointer (some ⟨g0, 0, none⟩)), (vs x1)] H [bx g0 67 (q9 x0)] (fun v H' Fo => ∃ (r0 : (List d6)) (y0 : g9) (sr0 : Sl) (Fr0 : Frag), v = (vs sr0) ∧ Fo = [bx g0 67 (q9 y0), Fr0] ∧ RowL 73 6 d9 sr0 r0 Fr0 ∧ K r0 y0 H') noQE
def a6J (x0 : g7) (x1 : Int) (H : Hp) (K : g7 → Int → Hp → Prop) : Prop :=
 Ct Tryz.prog 10 [(Value.agg (i5 x0).toArray), (vi x1)] H [] (fun v H' Fo => ∃ (r0 : g7) (r1 : Int), v = (Value.tuple #[(Value.agg (i5 r0).toArray), (vi r1)]) ∧ Fo = [] ∧ K r0 r1 H') noQE
def a5y (x0 : g7) (H : Hp) (K : Bool → Hp → Prop) : Prop :=
 Ct Tryz.prog 29 [(Value.agg (i5 x0).toArray)] H [] (fun v H' Fo => ∃ (r0 : Bool), v = (vB r0) ∧ Fo = [] ∧ K r0 H') noQE
def a0e (x0 : a8) (x1 : a8) (H : Hp) (K : Bool → Hp → Prop) : Prop :=
 Ct Tryz.prog 53 [(Value.agg (b8 x0).toArray), (Value.agg (b8 x1).toArray)] H [] (fun v H' Fo => ∃ (r0 : Bool), v = (vB r0) ∧ Fo = [] ∧ K r0 H') noQE
def a3g (x0 : b7) (x1 : b7) (H : Hp) (K : Bool → Hp → Prop) : Prop :=
 Ct Tryz.prog 52 [(Value.agg (d8 x0).toArray), (Value.agg (d8 x1).toArray)] H [] (fun v H' Fo => ∃ (r0 : Bool), v = (vB r0) ∧ Fo = [] ∧ K r0 H') noQE
def M3 (x0 : Sl) (x1 : Sl) (H : Hp) (K : Bool → Hp → Prop) : Prop :=
 Ct Tryz.prog 30 [(vs x0), (vs x1)] H [] (fun v H' Fo => ∃ (r0 : Bool), v = (vB r0) ∧ Fo = [] ∧ K r0 H') noQE
def a7r (x0 : g7) (x1 : g7) (H : Hp) (K : Bool → Hp → Prop) : Prop :=
 Ct Tryz.prog 11 [(Value.agg (i5 x0).toArray), (Value.agg (i5 x1).toArray)] H [] (fun v H' Fo => ∃ (r0 : Bool), v = (vB r0) ∧ Fo = [] ∧ K r0 H') noQE
def a3h (x0 : g7) (x1 : Int) (H : Hp) (K : Bool → Hp → Prop) : Prop :=
 Ct Tryz.prog 3 [(Value.agg (i5 x0).toArray), (vi x1)] H [] (fun v H' Fo => ∃ (r0 : Bool), v = (vB r0) ∧ Fo = [] ∧ K r0 H') noQE
def a8v (x0 : O3) (H : Hp) (K : Bool → Hp → Prop) : Prop :=
 Ct Tryz.prog 187 [(Value.agg (b8 x0.t7).toArray)] H [] (fun v H' Fo => ∃ (r0 : Bool), v = (vB r0) ∧ Fo = [] ∧ K r0 H') noQE
def b4s (x0 : a8) (H : Hp) (K : g8 → Hp → Prop) : Prop :=
 Ct Tryz.prog 190 [(Value.agg (b8 x0).toArray)] H [] (fun v H' Fo => ∃ (r0 : g8), v = (E8 r0) ∧ Fo = [] ∧ K r0 H') noQE
def C5 (x0 : Sl) (H : Hp) (K : Sl → Hp → Prop) : Prop :=
 Ct Tryz.prog 189 [(vs x0), (fC 190)] H [] (fun v H' Fo => ∃ (r0 : Sl), v = (vs r0) ∧ Fo = [] ∧ K r0 H') noQE
def b1t (x0 : O3) (H : Hp) (K : Sl → Hp → Prop) : Prop :=
 Ct Tryz.prog 188 [(Value.agg (b8 x0.t7).toArray)] H [] (fun v H' Fo => ∃ (r0 : Sl), v = (vs r0) ∧ Fo = [] ∧ K r0 H') noQE
def a8w (x0 : R6) (H : Hp) (K : Bool → Hp → Prop) : Prop :=
 Ct Tryz.prog 191 [(Value.agg (d8 x0.r8).toArray)] H [] (fun v H' Fo => ∃ (r0 : Bool), v = (vB r0) ∧ Fo = [] ∧ K r0 H') noQE
def b4t (x0 : b7) (H : Hp) (K : g8 → Hp → Prop) : Prop :=
 Ct Tryz.prog 194 [(Value.agg (d8 x0).toArray)] H [] (fun v H' Fo => ∃ (r0 : g8), v = (E8 r0) ∧ Fo = [] ∧ K r0 H') noQE
def K7 (x0 : Sl) (H : Hp) (K : Sl → Hp → Prop) : Prop :=
 Ct Tryz.prog 193 [(vs x0), (fC 194)] H [] (fun v H' Fo => ∃ (r0 : Sl), v = (vs r0) ∧ Fo = [] ∧ K r0 H') noQE
def b1u (x0 : R6) (H : Hp) (K : Sl → Hp → Prop) : Prop :=
 Ct Tryz.prog 192 [(Value.agg (d8 x0.r8).toArray)] H [] (fun v H' Fo => ∃ (r0 : Sl), v = (vs r0) ∧ Fo = [] ∧ K r0 H') noQE
def b2v (x0 : a0D) (H : Hp) (K : Bool → Hp → Prop) : Prop :=
 Ct Tryz.prog 195 [(Value.agg (w6 x0.a0E).toArray)] H [] (fun v H' Fo => ∃ (r0 : Bool), v = (vB r0) ∧ Fo = [] ∧ K r0 H') noQE
def b1v (x0 : a0D) (H : Hp) (K : Sl → Hp → Prop) : Prop :=
 Ct Tryz.prog 196 [(Value.agg (w6 x0.a0E).toArray)] H [] (fun v H' Fo => ∃ (r0 : Sl), v = (vs r0) ∧ Fo = [] ∧ K r0 H') noQE
def a8x (x0 : W7) (H : Hp) (K : Bool → Hp → Prop) : Prop :=
 Ct Tryz.prog 197 [(Value.agg (d9 x0.j8).toArray)] H [] (fun v H' Fo => ∃ (r0 : Bool), v = (vB r0) ∧ Fo = [] ∧ K r0 H') noQE
def b1w (x0 : W7) (H : Hp) (K : Sl → Hp → Prop) : Prop :=
 Ct Tryz.prog 198 [(Value.agg (d9 x0.j8).toArray)] H [] (fun v H' Fo => ∃ (r0 : Sl), v = (vs r0) ∧ Fo = [] ∧ K r0 H') noQE
def b0l (x : g8) (H : Hp) (K : Bool → Hp → Prop) : Prop := match x with
 | .nil => False
 | .M0 y => a8v y H K
 | .R2 y => a8w y H K
 | .S2 y => b2v y H K
 | .P5 y => a8x y H K
def a9O (x : g8) (H : Hp) (K : Sl → Hp → Prop) : Prop := match x with
 | .nil => False
 | .M0 y => b1t y H K
 | .R2 y => b1u y H K
 | .S2 y => b1v y H K
 | .P5 y => b1w y H K
theorem c1P {E : Pan} {w0 w : World} {ps : Nat → Prop} {H0 H : Hp} {Fr : List Frag} {K : RT} {Kc : Bool → Hp → Prop} {x : g8} (I : Inv w0 ps H0 H Fr w) (h : b0l x H Kc) (hq : ∀ (r0 : Bool) (H' : Hp) (w' : World), Inv w0 ps H0 H' Fr w' → Hle H H' → (∀ i, i < w.heap.size → ¬ inF [] i → w'.heap[i]? = w.heap[i]?) → Kc r0 H' → K (vB r0) w') : oP E (xInvoke (E8 x) "gnomon/tree.form" []) w K := by
 cases x with
 | nil => exact h.elim
 | M0 y => exact a9Y (f := 187) (args := [(Value.agg (b8 y.t7).toArray)].toArray) (by kernel_rfl) (k8 (Fi := []) I h (fun v H' Fo w' I' l hk hq' => by obtain ⟨r0, rfl, rfl, hK⟩ := hq'; exact hq r0 H' w' I' l hk hK) (fun _ _ _ _ _ q => q.elim))
 | R2 y => exact a9Y (f := 191) (args := [(Value.agg (d8 y.r8).toArray)].toArray) (by kernel_rfl) (k8 (Fi := []) I h (fun v H' Fo w' I' l hk hq' => by obtain ⟨r0, rfl, rfl, hK⟩ := hq'; exact hq r0 H' w' I' l hk hK) (fun _ _ _ _ _ q => q.elim))
 | S2 y => exact a9Y (f := 195) (args := [(Value.agg (w6 y.a0E).toArray)].toArray) (by kernel_rfl) (k8 (Fi := []) I h (fun v H' Fo w' I' l hk hq' => by obtain ⟨r0, rfl, rfl, hK⟩ := hq'; exact hq r0 H' w' I' l hk hK) (fun _ _ _ _ _ q => q.elim))
 | P5 y => exact a9Y (f := 197) (args := [(Value.agg (d9 y.j8).toArray)].toArray) (by kernel_rfl) (k8 (Fi := []) I h (fun v H' Fo w' I' l hk hq' => by obtain ⟨r0, rfl, rfl, hK⟩ := hq'; exact hq r0 H' w' I' l hk hK) (fun _ _ _ _ _ q => q.elim))
theorem c0V {E : Pan} {w0 w : World} {ps : Nat → Prop} {H0 H : Hp} {Fr : List Frag} {K : RT} {Kc : Sl → Hp → Prop} {x : g8} (I : Inv w0 ps H0 H Fr w) (h : a9O x H Kc) (hq : ∀ (r0 : Sl) (H' : Hp) (w' : World), Inv w0 ps H0 H' Fr w' → Hle H H' → (∀ i, i < w.heap.size → ¬ inF [] i → w'.heap[i]? = w.heap[i]?) → Kc r0 H' → K (vs r0) w') : oP E (xInvoke (E8 x) "gnomon/tree.parts" []) w K := by
 cases x with
 | nil => exact h.elim
 | M0 y => exact a9Y (f := 188) (args := [(Value.agg (b8 y.t7).toArray)].toArray) (by kernel_rfl) (k8 (Fi := []) I h (fun v H' Fo w' I' l hk hq' => by obtain ⟨r0, rfl, rfl, hK⟩ := hq'; exact hq r0 H' w' I' l hk hK) (fun _ _ _ _ _ q => q.elim))
 | R2 y => exact a9Y (f := 192) (args := [(Value.agg (d8 y.r8).toArray)].toArray) (by kernel_rfl) (k8 (Fi := []) I h (fun v H' Fo w' I' l hk hq' => by obtain ⟨r0, rfl, rfl, hK⟩ := hq'; exact hq r0 H' w' I' l hk hK) (fun _ _ _ _ _ q => q.elim))
 | S2 y => exact a9Y (f := 196) (args := [(Value.agg (w6 y.a0E).toArray)].toArray) (by kernel_rfl) (k8 (Fi := []) I h (fun v H' Fo w' I' l hk hq' => by obtain ⟨r0, rfl, rfl, hK⟩ := hq'; exact hq r0 H' w' I' l hk hK) (fun _ _ _ _ _ q => q.elim))
 | P5 y => exact a9Y (f := 198) (args := [(Value.agg (d9 y.j8).toArray)].toArray) (by kernel_rfl) (k8 (Fi := []) I h (fun v H' Fo w' I' l hk hq' => by obtain ⟨r0, rfl, rfl, hK⟩ := hq'; exact hq r0 H' w' I' l hk hK) (fun _ _ _ _ _ q => q.elim))
end Go.Proofs.YtnhkdkcgdcgmdaaGreatDoor
