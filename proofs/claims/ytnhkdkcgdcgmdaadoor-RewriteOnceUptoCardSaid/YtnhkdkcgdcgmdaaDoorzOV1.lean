/- Contracts of the program's functions; printed by lift.py off the code. -/
import Derived.Test.YtnhkdkcgdcgmdaaDoorzOU1
import Derived.Test.YtnhkdkcgdcgmdaaDoorzOG1a
namespace Go.Proofs.YtnhkdkcgdcgmdaaDoor
open Go.RowKit
set_option maxRecDepth 100000
set_option maxHeartbeats 2000000
def R7 (x0 : Int) (H : Hp) (K : b5 → Hp → Prop) : Prop :=
 Ct Tryd.prog 36 [(vi x0)] H [] (fun v H' Fo => ∃ (r0 : b5), v = (Value.agg (b6 r0).toArray) ∧ Fo = [] ∧ K r0 H') noQE
def a2O (x0 : d7) (H : Hp) (K : ByteArray → Bool → Hp → Prop) : Prop :=
 Ct Tryd.prog 118 [(C0 x0)] H [] (fun v H' Fo => ∃ (r0 : ByteArray) (r1 : Bool), v = (Value.tuple #[(Value.string r0), (vB r1)]) ∧ Fo = [] ∧ K r0 r1 H') noQE
def N1 (x0 : Int) (x1 : Int) (x2 : Int) (H : Hp) (K : Bool → Hp → Prop) : Prop :=
 ∀ (g2 : Nat), Ct Tryd.prog 151 [(Value.int .i32 x0), (Value.int .i32 x1), (Value.pointer (some ⟨g2, 0, none⟩))] H [bx g2 21 [(Value.int .i32 x2)]] (fun v H' Fo => ∃ (r0 : Bool), v = (vB r0) ∧ Fo = [bx g2 21 [(Value.int .i32 x2)]] ∧ K r0 H') noQE
def a4h (x0 : Int) (H : Hp) (K : Int → Hp → Prop) : Prop :=
 Ct Tryd.prog 141 [(Value.int .i32 x0)] H [] (fun v H' Fo => ∃ (r0 : Int), v = (vi r0) ∧ Fo = [] ∧ K r0 H') noQE
def a6W (x0 : Int) (H : Hp) (K : Bool → Hp → Prop) : Prop :=
 Ct Tryd.prog 140 [(Value.int .i32 x0)] H [] (fun v H' Fo => ∃ (r0 : Bool), v = (vB r0) ∧ Fo = [] ∧ K r0 H') noQE
def a6R (x0 : ByteArray) (H : Hp) (K : Bool → Hp → Prop) : Prop :=
 Ct Tryd.prog 137 [(Value.string x0)] H [] (fun v H' Fo => ∃ (r0 : Bool), v = (vB r0) ∧ Fo = [] ∧ K r0 H') noQE
def a0o (x0 : ByteArray) (H : Hp) (K : Int → Hp → Prop) : Prop :=
 Ct Tryd.prog 150 [(Value.string x0)] H [] (fun v H' Fo => ∃ (r0 : Int), v = (vi r0) ∧ Fo = [] ∧ K r0 H') noQE
def a5r (x0 : ByteArray) (H : Hp) (K : Bool → Hp → Prop) : Prop :=
 Ct Tryd.prog 138 [(Value.string x0)] H [] (fun v H' Fo => ∃ (r0 : Bool), v = (vB r0) ∧ Fo = [] ∧ K r0 H') noQE
def a3t (x0 : ByteArray) (H : Hp) (K : Bool → Hp → Prop) : Prop :=
 Ct Tryd.prog 139 [(Value.string x0)] H [] (fun v H' Fo => ∃ (r0 : Bool), v = (vB r0) ∧ Fo = [] ∧ K r0 H') noQE
def a5s (x0 : ByteArray) (H : Hp) (K : Bool → Hp → Prop) : Prop :=
 Ct Tryd.prog 119 [(Value.string x0)] H [] (fun v H' Fo => ∃ (r0 : Bool), v = (vB r0) ∧ Fo = [] ∧ K r0 H') noQE
def a1X (x0 : (List ByteArray)) (x1 : ByteArray) (H : Hp) (K : Int → Hp → Prop) : Prop :=
 ∀ (sx0 : Sl) (Fx0 : Frag), RowL 9 1 J9 sx0 x0 Fx0 → Ct Tryd.prog 142 [(vs sx0), (Value.string x1)] H [Fx0] (fun v H' Fo => ∃ (r0 : Int), v = (vi r0) ∧ Fo = [Fx0] ∧ K r0 H') noQE
def O8 (x0 : (List ByteArray)) (x1 : ByteArray) (H : Hp) (K : Bool → Hp → Prop) : Prop :=
 ∀ (sx0 : Sl) (Fx0 : Frag), RowL 9 1 J9 sx0 x0 Fx0 → Ct Tryd.prog 120 [(vs sx0), (Value.string x1)] H [Fx0] (fun v H' Fo => ∃ (r0 : Bool), v = (vB r0) ∧ Fo = [Fx0] ∧ K r0 H') noQE
def a3m (x0 : g9) (a0p : (List ByteArray)) (x1 : d7) (x2 : Int) (H : Hp) (K : Bool → g9 → (List ByteArray) → Hp → Prop) : Prop :=
 ∀ (g0 : Nat), ∀ (Z5 : Sl) (a4R : Frag), RowL 9 1 J9 Z5 a0p a4R → Ct Tryd.prog 100 [(Value.pointer (some ⟨g0, 0, none⟩)), (C0 x1), (vi x2)] H [bx g0 106 [(vi x0.fnodes), (vi x0.fdepth), (vi x0.fe), (vB x0.fform), (vB x0.fnamed), (vs Z5)], a4R] (fun v H' Fo => ∃ (r0 : Bool) (y0 : g9) (a8E : (List ByteArray)) (a6h : Sl) (a6i : Frag), v = (vB r0) ∧ Fo = [bx g0 106 [(vi y0.fnodes), (vi y0.fdepth), (vi y0.fe), (vB y0.fform), (vB y0.fnamed), (vs a6h)], a6i] ∧ RowL 9 1 J9 a6h a8E a6i ∧ K r0 y0 a8E H') noQE
def a0d (x0 : Sl) (x1 : Int) (x2 : g9) (b2p : (List ByteArray)) (H : Hp) (K : Bool → g9 → (List ByteArray) → Hp → Prop) : Prop :=
 ∀ (g2 g2b g3 : Nat), ∀ (b3Y : Sl) (b3Z : Frag), RowL 9 1 J9 b3Y b2p b3Z → Ct Tryd.prog 99 [(vs x0), (vi x1), (Value.pointer (some ⟨g2, 0, none⟩)), (Value.pointer (some ⟨g3, 0, none⟩))] H [bx g2 102 [(Value.pointer (some ⟨g2b, 0, none⟩))], bx g2b 106 [(vi x2.fnodes), (vi x2.fdepth), (vi x2.fe), (vB x2.fform), (vB x2.fnamed), (vs b3Y)], b3Z, bx g3 161 [(Value.func (.func 99) #[] #[(Value.pointer (some ⟨g2, 0, none⟩)), (Value.pointer (some ⟨g3, 0, none⟩))])]] (fun v H' Fo => ∃ (r0 : Bool) (y0 : g9) (a8E : (List ByteArray)) (a6h : Sl) (a6i : Frag), v = (vB r0) ∧ Fo = [bx g2 102 [(Value.pointer (some ⟨g2b, 0, none⟩))], bx g2b 106 [(vi y0.fnodes), (vi y0.fdepth), (vi y0.fe), (vB y0.fform), (vB y0.fnamed), (vs a6h)], a6i, bx g3 161 [(Value.func (.func 99) #[] #[(Value.pointer (some ⟨g2, 0, none⟩)), (Value.pointer (some ⟨g3, 0, none⟩))])]] ∧ RowL 9 1 J9 a6h a8E a6i ∧ K r0 y0 a8E H') noQE
def a0V (x0 : Sl) (H : Hp) (K : g9 → Hp → Prop) : Prop :=
 Ct Tryd.prog 60 [(vs x0)] H [] (fun v H' Fo => ∃ (r0 : g9) (gr0 : Nat), v = (Value.pointer (some ⟨gr0, 0, none⟩)) ∧ Fo = [bx gr0 106 (a7S r0)] ∧ K r0 H') noQE
def a7q (x0 : b5) (H : Hp) (K : Int → Hp → Prop) : Prop :=
 Ct Tryd.prog 37 [(Value.agg (b6 x0).toArray)] H [] (fun v H' Fo => ∃ (r0 : Int), v = (vi r0) ∧ Fo = [] ∧ K r0 H') noQE
def O1 (x0 : b5) (H : Hp) (K : Int → Bool → Hp → Prop) : Prop :=
 Ct Tryd.prog 62 [(Value.agg (b6 x0).toArray)] H [] (fun v H' Fo => ∃ (r0 : Int) (r1 : Bool), v = (Value.tuple #[(vi r0), (vB r1)]) ∧ Fo = [] ∧ K r0 r1 H') noQE
def V3 (x0 : b5) (x1 : Int) (H : Hp) (K : Bool → Hp → Prop) : Prop :=
 Ct Tryd.prog 65 [(Value.agg (b6 x0).toArray), (vi x1)] H [] (fun v H' Fo => ∃ (r0 : Bool), v = (vB r0) ∧ Fo = [] ∧ K r0 H') noQE
def z2 (x0 : Sl) (H : Hp) (K : Sl → Hp → Prop) : Prop :=
 Ct Tryd.prog 61 [(vs x0), (fC 38)] H [] (fun v H' Fo => ∃ (r0 : Sl), v = (vs r0) ∧ Fo = [] ∧ K r0 H') noQE
def a2q (x0 : Int) (H : Hp) (K : b5 → Hp → Prop) : Prop :=
 Ct Tryd.prog 63 [(vi x0)] H [] (fun v H' Fo => ∃ (r0 : b5), v = (Value.agg (b6 r0).toArray) ∧ Fo = [] ∧ K r0 H') noQE
def a4b (x0 : Int) (x1 : Int) (H : Hp) (K : Int → Int → Hp → Prop) : Prop :=
 Ct Tryd.prog 27 [(vi x0), (vi x1)] H [] (fun v H' Fo => ∃ (r0 : Int) (r1 : Int), v = (Value.tuple #[(vi r0), (vi r1)]) ∧ Fo = [] ∧ K r0 r1 H') noQE
def a6j (x0 : Int) (H : Hp) (K : Int → Int → Hp → Prop) : Prop :=
 Ct Tryd.prog 101 [(vi x0)] H [] (fun v H' Fo => ∃ (r0 : Int) (r1 : Int), v = (Value.tuple #[(vi r0), (vi r1)]) ∧ Fo = [] ∧ K r0 r1 H') noQE
def a6k (x0 : Int) (x1 : Int) (H : Hp) (K : Int → Int → Hp → Prop) : Prop :=
 Ct Tryd.prog 26 [(vi x0), (vi x1)] H [] (fun v H' Fo => ∃ (r0 : Int) (r1 : Int), v = (Value.tuple #[(vi r0), (vi r1)]) ∧ Fo = [] ∧ K r0 r1 H') noQE
def a5t (x0 : Int) (H : Hp) (K : Int → Hp → Prop) : Prop :=
 Ct Tryd.prog 48 [(vi x0)] H [] (fun v H' Fo => ∃ (r0 : Int), v = (Value.int .u64 r0) ∧ Fo = [] ∧ K r0 H') noQE
def a8g (x0 : Int) (x1 : Int) (H : Hp) (K : Int → Int → Hp → Prop) : Prop :=
 Ct Tryd.prog 47 [(Value.int .u64 x0), (Value.int .u64 x1)] H [] (fun v H' Fo => ∃ (r0 : Int) (r1 : Int), v = (Value.tuple #[(Value.int .u64 r0), (Value.int .u64 r1)]) ∧ Fo = [] ∧ K r0 r1 H') noQE
def a6l (x0 : Int) (x1 : Int) (H : Hp) (K : Int → Int → Hp → Prop) : Prop :=
 Ct Tryd.prog 28 [(vi x0), (vi x1)] H [] (fun v H' Fo => ∃ (r0 : Int) (r1 : Int), v = (Value.tuple #[(vi r0), (vi r1)]) ∧ Fo = [] ∧ K r0 r1 H') noQE
def a3A (x0 : Int) (x1 : Int) (H : Hp) (K : Int → Hp → Prop) : Prop :=
 Ct Tryd.prog 49 [(vi x0), (vi x1)] H [] (fun v H' Fo => ∃ (r0 : Int), v = (vi r0) ∧ Fo = [] ∧ K r0 H') noQE
def a6m (x0 : Int) (x1 : Int) (H : Hp) (K : Int → Int → Hp → Prop) : Prop :=
 Ct Tryd.prog 29 [(vi x0), (vi x1)] H [] (fun v H' Fo => ∃ (r0 : Int) (r1 : Int), v = (Value.tuple #[(vi r0), (vi r1)]) ∧ Fo = [] ∧ K r0 r1 H') noQE
def a6n (x0 : Int) (x1 : Int) (H : Hp) (K : Int → Int → Hp → Prop) : Prop :=
 Ct Tryd.prog 30 [(vi x0), (vi x1)] H [] (fun v H' Fo => ∃ (r0 : Int) (r1 : Int), v = (Value.tuple #[(vi r0), (vi r1)]) ∧ Fo = [] ∧ K r0 r1 H') noQE
def a3B (x0 : b5) (H : Hp) (K : Int → Bool → Hp → Prop) : Prop :=
 Ct Tryd.prog 64 [(Value.agg (b6 x0).toArray)] H [] (fun v H' Fo => ∃ (r0 : Int) (r1 : Bool), v = (Value.tuple #[(vi r0), (vB r1)]) ∧ Fo = [] ∧ K r0 r1 H') noQE
def a2R (x0 : b5) (H : Hp) (K : b5 → Hp → Prop) : Prop :=
 Ct Tryd.prog 38 [(Value.agg (b6 x0).toArray)] H [] (fun v H' Fo => ∃ (r0 : b5), v = (Value.agg (b6 r0).toArray) ∧ Fo = [] ∧ K r0 H') noQE
def a5O (x0 : b5) (H : Hp) (K : b5 → Int → Hp → Prop) : Prop :=
 Ct Tryd.prog 11 [(Value.agg (b6 x0).toArray)] H [] (fun v H' Fo => ∃ (r0 : b5) (r1 : Int), v = (Value.tuple #[(Value.agg (b6 r0).toArray), (vi r1)]) ∧ Fo = [] ∧ K r0 r1 H') noQE
def a7r (x0 : b8) (H : Hp) (K : Int → Hp → Prop) : Prop :=
 Ct Tryd.prog 41 [(Value.agg (d5 x0).toArray)] H [] (fun v H' Fo => ∃ (r0 : Int), v = (vi r0) ∧ Fo = [] ∧ K r0 H') noQE
def C2 (x0 : Sl) (H : Hp) (K : Sl → Hp → Prop) : Prop :=
 Ct Tryd.prog 73 [(vs x0), (fC 42)] H [] (fun v H' Fo => ∃ (r0 : Sl), v = (vs r0) ∧ Fo = [] ∧ K r0 H') noQE
def a5P (H : Hp) (K : Hp → Prop) : Prop :=
 Ct Tryd.prog 110 [] H [] (fun v H' Fo => v = (Value.agg #[(fC 123), (fC 124), (fC 125), (fC 126), (fC 127), (fC 128), (fC 129)]) ∧ Fo = [] ∧ K H') noQE
def b8C (x0 : Int) (x1 : Int) (H : Hp) (K : Bool → Hp → Prop) : Prop :=
 Ct Tryd.prog 123 [(vi x0), (vi x1)] H [] (fun v H' Fo => ∃ (r0 : Bool), v = (vB r0) ∧ Fo = [] ∧ K r0 H') noQE
def a7X (x0 : Int) (x1 : Int) (H : Hp) (K : Bool → Hp → Prop) : Prop :=
 Ct Tryd.prog 124 [(vi x0), (vi x1)] H [] (fun v H' Fo => ∃ (r0 : Bool), v = (vB r0) ∧ Fo = [] ∧ K r0 H') noQE
def a7Y (x0 : Int) (x1 : Int) (H : Hp) (K : Bool → Hp → Prop) : Prop :=
 Ct Tryd.prog 125 [(vi x0), (vi x1)] H [] (fun v H' Fo => ∃ (r0 : Bool), v = (vB r0) ∧ Fo = [] ∧ K r0 H') noQE
def a7Z (x0 : Int) (x1 : Int) (H : Hp) (K : Bool → Hp → Prop) : Prop :=
 Ct Tryd.prog 126 [(vi x0), (vi x1)] H [] (fun v H' Fo => ∃ (r0 : Bool), v = (vB r0) ∧ Fo = [] ∧ K r0 H') noQE
def a8a (x0 : Int) (x1 : Int) (H : Hp) (K : Bool → Hp → Prop) : Prop :=
 Ct Tryd.prog 127 [(vi x0), (vi x1)] H [] (fun v H' Fo => ∃ (r0 : Bool), v = (vB r0) ∧ Fo = [] ∧ K r0 H') noQE
def a8b (x0 : Int) (x1 : Int) (H : Hp) (K : Bool → Hp → Prop) : Prop :=
 Ct Tryd.prog 128 [(vi x0), (vi x1)] H [] (fun v H' Fo => ∃ (r0 : Bool), v = (vB r0) ∧ Fo = [] ∧ K r0 H') noQE
def a8c (x0 : Int) (x1 : Int) (H : Hp) (K : Bool → Hp → Prop) : Prop :=
 Ct Tryd.prog 129 [(vi x0), (vi x1)] H [] (fun v H' Fo => ∃ (r0 : Bool), v = (vB r0) ∧ Fo = [] ∧ K r0 H') noQE
def a8F (x0 : Int) (x1 : Int) (x2 : Int) (H : Hp) (K : Bool → Hp → Prop) : Prop :=
 Ct Tryd.prog 75 [(vi x0), (vi x1), (vi x2)] H [] (fun v H' Fo => ∃ (r0 : Bool), v = (vB r0) ∧ Fo = [] ∧ K r0 H') noQE
def a2r (x0 : Bool) (H : Hp) (K : b8 → Hp → Prop) : Prop :=
 Ct Tryd.prog 74 [(vB x0)] H [] (fun v H' Fo => ∃ (r0 : b8), v = (Value.agg (d5 r0).toArray) ∧ Fo = [] ∧ K r0 H') noQE
def a1z (x0 : b8) (x1 : Int) (x2 : Int) (H : Hp) (K : b8 → Hp → Prop) : Prop :=
 Ct Tryd.prog 76 [(Value.agg (d5 x0).toArray), (vi x1), (vi x2)] H [] (fun v H' Fo => ∃ (r0 : b8), v = (Value.agg (d5 r0).toArray) ∧ Fo = [] ∧ K r0 H') noQE
def a2S (x0 : b8) (H : Hp) (K : b8 → Hp → Prop) : Prop :=
 Ct Tryd.prog 42 [(Value.agg (d5 x0).toArray)] H [] (fun v H' Fo => ∃ (r0 : b8), v = (Value.agg (d5 r0).toArray) ∧ Fo = [] ∧ K r0 H') noQE
def a5Q (x0 : b8) (H : Hp) (K : b8 → Int → Hp → Prop) : Prop :=
 Ct Tryd.prog 13 [(Value.agg (d5 x0).toArray)] H [] (fun v H' Fo => ∃ (r0 : b8) (r1 : Int), v = (Value.tuple #[(Value.agg (d5 r0).toArray), (vi r1)]) ∧ Fo = [] ∧ K r0 r1 H') noQE
def a3o (H : Hp) (K : Bool → Hp → Prop) : Prop :=
 Ct Tryd.prog 10 [] H [] (fun v H' Fo => ∃ (r0 : Bool), v = (vB r0) ∧ Fo = [] ∧ K r0 H') noQE
def a9s (x0 : t1) (H : Hp) (K : d7 → Hp → Prop) : Prop :=
 Ct Tryd.prog 89 [(Value.agg (p6 x0).toArray)] H [] (fun v H' Fo => ∃ (r0 : d7), v = (C0 r0) ∧ Fo = [] ∧ K r0 H') noQE
def L5 (x0 : Sl) (H : Hp) (K : Sl → Hp → Prop) : Prop :=
 Ct Tryd.prog 88 [(vs x0), (fC 89)] H [] (fun v H' Fo => ∃ (r0 : Sl), v = (vs r0) ∧ Fo = [] ∧ K r0 H') noQE
def a9t (x0 : b9) (H : Hp) (K : d7 → Hp → Prop) : Prop :=
 Ct Tryd.prog 91 [(Value.agg (d8 x0).toArray)] H [] (fun v H' Fo => ∃ (r0 : d7), v = (C0 r0) ∧ Fo = [] ∧ K r0 H') noQE
def A0 (x0 : Sl) (H : Hp) (K : Sl → Hp → Prop) : Prop :=
 Ct Tryd.prog 90 [(vs x0), (fC 91)] H [] (fun v H' Fo => ∃ (r0 : Sl), v = (vs r0) ∧ Fo = [] ∧ K r0 H') noQE
def T2 (x1 : Int) (H : Hp) (K : (List d7) → Hp → Prop) : Prop :=
 Ct Tryd.prog 117 [(nS), (vi x1)] H [] (fun v H' Fo => ∃ (r0 : (List d7)) (sr0 : Sl) (Fr0 : Frag), v = (vs sr0) ∧ Fo = [Fr0] ∧ RowL 152 1 t6 sr0 r0 Fr0 ∧ K r0 H') noQE
def E0 (x0 : Sl) (H : Hp) (K : Sl → Hp → Prop) : Prop :=
 Ct Tryd.prog 87 [(vs x0)] H [] (fun v H' Fo => ∃ (r0 : Sl), v = (vs r0) ∧ Fo = [] ∧ K r0 H') noQE
def a3u (x0 : j6) (H : Hp) (K : g9 → Hp → Prop) : Prop :=
 Ct Tryd.prog 52 [(Value.agg (f5 x0).toArray)] H [] (fun v H' Fo => ∃ (r0 : g9) (gr0 : Nat), v = (Value.pointer (some ⟨gr0, 0, none⟩)) ∧ Fo = [bx gr0 106 (a7S r0)] ∧ K r0 H') noQE
def a1P (x0 : j6) (H : Hp) (K : Int → Hp → Prop) : Prop :=
 Ct Tryd.prog 53 [(Value.agg (f5 x0).toArray)] H [] (fun v H' Fo => ∃ (r0 : Int), v = (vi r0) ∧ Fo = [] ∧ K r0 H') noQE
def O9 (x0 : Sl) (H : Hp) (K : Sl → Hp → Prop) : Prop :=
 Ct Tryd.prog 83 [(vs x0)] H [] (fun v H' Fo => ∃ (r0 : Sl), v = (vs r0) ∧ Fo = [] ∧ K r0 H') noQE
def a5e (x0 : b5) (H : Hp) (K : b5 → Hp → Prop) : Prop :=
 Ct Tryd.prog 113 [(Value.agg (b6 x0).toArray)] H [] (fun v H' Fo => ∃ (r0 : b5), v = (Value.agg (b6 r0).toArray) ∧ Fo = [] ∧ K r0 H') noQE
def z7 (x0 : Sl) (H : Hp) (K : Sl → Hp → Prop) : Prop :=
 Ct Tryd.prog 112 [(vs x0), (fC 113)] H [] (fun v H' Fo => ∃ (r0 : Sl), v = (vs r0) ∧ Fo = [] ∧ K r0 H') noQE
def a5f (x0 : b8) (H : Hp) (K : b8 → Hp → Prop) : Prop :=
 Ct Tryd.prog 115 [(Value.agg (d5 x0).toArray)] H [] (fun v H' Fo => ∃ (r0 : b8), v = (Value.agg (d5 r0).toArray) ∧ Fo = [] ∧ K r0 H') noQE
def C5 (x0 : Sl) (H : Hp) (K : Sl → Hp → Prop) : Prop :=
 Ct Tryd.prog 114 [(vs x0), (fC 115)] H [] (fun v H' Fo => ∃ (r0 : Sl), v = (vs r0) ∧ Fo = [] ∧ K r0 H') noQE
def a5g (x0 : b9) (H : Hp) (K : b9 → Hp → Prop) : Prop :=
 Ct Tryd.prog 85 [(Value.agg (d8 x0).toArray)] H [] (fun v H' Fo => ∃ (r0 : b9), v = (Value.agg (d8 r0).toArray) ∧ Fo = [] ∧ K r0 H') noQE
def z8 (x0 : Sl) (H : Hp) (K : Sl → Hp → Prop) : Prop :=
 Ct Tryd.prog 84 [(vs x0), (fC 85)] H [] (fun v H' Fo => ∃ (r0 : Sl), v = (vs r0) ∧ Fo = [] ∧ K r0 H') noQE
def a7s (x0 : j6) (H : Hp) (K : j6 → Int → Hp → Prop) : Prop :=
 Ct Tryd.prog 50 [(Value.agg (f5 x0).toArray)] H [] (fun v H' Fo => ∃ (r0 : j6) (r1 : Int), v = (Value.tuple #[(Value.agg (f5 r0).toArray), (vi r1)]) ∧ Fo = [] ∧ K r0 r1 H') noQE
def K8 (x0 : Int) (x1 : b9) (H : Hp) (K : Bool → Hp → Prop) : Prop :=
 ∀ (g1 : Nat), Ct Tryd.prog 116 [(vi x0), (Value.pointer (some ⟨g1, 0, none⟩))] H [bx g1 63 (d8 x1)] (fun v H' Fo => ∃ (r0 : Bool), v = (vB r0) ∧ Fo = [bx g1 63 (d8 x1)] ∧ K r0 H') noQE
def a5R (x0 : b9) (H : Hp) (K : Sl → Hp → Prop) : Prop :=
 Ct Tryd.prog 86 [(Value.agg (d8 x0).toArray)] H [] (fun v H' Fo => ∃ (r0 : Sl), v = (vs r0) ∧ Fo = [] ∧ K r0 H') noQE
def U8 (x0 : Sl) (H : Hp) (K : Sl → Hp → Prop) : Prop :=
 Ct Tryd.prog 51 [(vs x0)] H [] (fun v H' Fo => ∃ (r0 : Sl), v = (vs r0) ∧ Fo = [] ∧ K r0 H') noQE
def a2T (x0 : j6) (H : Hp) (K : j6 → Int → Hp → Prop) : Prop :=
 Ct Tryd.prog 31 [(Value.agg (f5 x0).toArray)] H [] (fun v H' Fo => ∃ (r0 : j6) (r1 : Int), v = (Value.tuple #[(Value.agg (f5 r0).toArray), (vi r1)]) ∧ Fo = [] ∧ K r0 r1 H') noQE
def a4i (x0 : j6) (H : Hp) (K : Int → Int → Hp → Prop) : Prop :=
 Ct Tryd.prog 32 [(Value.agg (f5 x0).toArray)] H [] (fun v H' Fo => ∃ (r0 : Int) (r1 : Int), v = (Value.tuple #[(vi r0), (vi r1)]) ∧ Fo = [] ∧ K r0 r1 H') noQE
def a4j (x0 : j6) (H : Hp) (K : Int → Int → Hp → Prop) : Prop :=
 Ct Tryd.prog 33 [(Value.agg (f5 x0).toArray)] H [] (fun v H' Fo => ∃ (r0 : Int) (r1 : Int), v = (Value.tuple #[(vi r0), (vi r1)]) ∧ Fo = [] ∧ K r0 r1 H') noQE
def a8r (x0 : Sl) (H : Hp) (K : (Option Nat) → ByteArray → Int → Hp → Prop) : Prop :=
 Ct Tryd.prog 54 [(vs x0)] H [] (fun v H' Fo => ∃ (r0 : (Option Nat)) (r1 : ByteArray) (r2 : Int), v = (Value.tuple #[(Value.map r0), (Value.string r1), (vi r2)]) ∧ Fo = [] ∧ K r0 r1 r2 H') noQE
def V8 (x0 : i4) (Q4 : (List f6)) (x1 : b5) (H : Hp) (K : i4 → (List f6) → Hp → Prop) : Prop :=
 ∀ (g0 : Nat), ∀ (U4 : Sl) (Z6 : Frag), RowL 117 2 y7 U4 Q4 Z6 → Ct Tryd.prog 94 [(Value.pointer (some ⟨g0, 0, none⟩)), (Value.agg (b6 x1).toArray)] H [bx g0 114 [(vs U4)], Z6] (fun v H' Fo => ∃ (y0 : i4) (a4c : (List f6)) (a0W : Sl) (a0X : Frag), v = (Value.tuple #[]) ∧ Fo = [bx g0 114 [(vs a0W)], a0X] ∧ RowL 117 2 y7 a0W a4c a0X ∧ K y0 a4c H') noQE
def a0u (x0 : i4) (Q4 : (List f6)) (x1 : b8) (H : Hp) (K : i4 → (List f6) → Hp → Prop) : Prop :=
 ∀ (g0 : Nat), ∀ (U4 : Sl) (Z6 : Frag), RowL 117 2 y7 U4 Q4 Z6 → Ct Tryd.prog 93 [(Value.pointer (some ⟨g0, 0, none⟩)), (Value.agg (d5 x1).toArray)] H [bx g0 114 [(vs U4)], Z6] (fun v H' Fo => ∃ (y0 : i4) (a4c : (List f6)) (a0W : Sl) (a0X : Frag), v = (Value.tuple #[]) ∧ Fo = [bx g0 114 [(vs a0W)], a0X] ∧ RowL 117 2 y7 a0W a4c a0X ∧ K y0 a4c H') noQE
def U2 (x0 : i4) (Q4 : (List f6)) (x1 : Sl) (H : Hp) (K : i4 → (List f6) → Hp → Prop) : Prop :=
 ∀ (g0 : Nat), ∀ (U4 : Sl) (Z6 : Frag), RowL 117 2 y7 U4 Q4 Z6 → Ct Tryd.prog 55 [(Value.pointer (some ⟨g0, 0, none⟩)), (vs x1)] H [bx g0 114 [(vs U4)], Z6] (fun v H' Fo => ∃ (y0 : i4) (a4c : (List f6)) (a0W : Sl) (a0X : Frag), v = (Value.tuple #[]) ∧ Fo = [bx g0 114 [(vs a0W)], a0X] ∧ RowL 117 2 y7 a0W a4c a0X ∧ K y0 a4c H') noQE
def a4k (x0 : j6) (H : Hp) (K : ByteArray → Int → Hp → Prop) : Prop :=
 Ct Tryd.prog 34 [(Value.agg (f5 x0).toArray)] H [] (fun v H' Fo => ∃ (r0 : ByteArray) (r1 : Int), v = (Value.tuple #[(Value.string r0), (vi r1)]) ∧ Fo = [] ∧ K r0 r1 H') noQE
def a2U (x0 : j6) (H : Hp) (K : Bool → Hp → Prop) : Prop :=
 Ct Tryd.prog 56 [(Value.agg (f5 x0).toArray)] H [] (fun v H' Fo => ∃ (r0 : Bool), v = (vB r0) ∧ Fo = [] ∧ K r0 H') noQE
def F1 (x0 : Sl) (x1 : Sl) (H : Hp) (K : Bool → Hp → Prop) : Prop :=
 Ct Tryd.prog 57 [(vs x0), (vs x1)] H [] (fun v H' Fo => ∃ (r0 : Bool), v = (vB r0) ∧ Fo = [] ∧ K r0 H') noQE
def a2s (x0 : b5) (x1 : b5) (H : Hp) (K : Bool → Hp → Prop) : Prop :=
 Ct Tryd.prog 96 [(Value.agg (b6 x0).toArray), (Value.agg (b6 x1).toArray)] H [] (fun v H' Fo => ∃ (r0 : Bool), v = (vB r0) ∧ Fo = [] ∧ K r0 H') noQE
def o6 (x0 : Sl) (x1 : Sl) (H : Hp) (K : Bool → Hp → Prop) : Prop :=
 Ct Tryd.prog 95 [(vs x0), (vs x1), (fC 96)] H [] (fun v H' Fo => ∃ (r0 : Bool), v = (vB r0) ∧ Fo = [] ∧ K r0 H') noQE
def a2t (x0 : b8) (x1 : b8) (H : Hp) (K : Bool → Hp → Prop) : Prop :=
 Ct Tryd.prog 98 [(Value.agg (d5 x0).toArray), (Value.agg (d5 x1).toArray)] H [] (fun v H' Fo => ∃ (r0 : Bool), v = (vB r0) ∧ Fo = [] ∧ K r0 H') noQE
def j9 (x0 : Sl) (x1 : Sl) (H : Hp) (K : Bool → Hp → Prop) : Prop :=
 Ct Tryd.prog 97 [(vs x0), (vs x1), (fC 98)] H [] (fun v H' Fo => ∃ (r0 : Bool), v = (vB r0) ∧ Fo = [] ∧ K r0 H') noQE
def a2u (x0 : b9) (x1 : b9) (H : Hp) (K : Bool → Hp → Prop) : Prop :=
 Ct Tryd.prog 59 [(Value.agg (d8 x0).toArray), (Value.agg (d8 x1).toArray)] H [] (fun v H' Fo => ∃ (r0 : Bool), v = (vB r0) ∧ Fo = [] ∧ K r0 H') noQE
def d9 (x0 : Sl) (x1 : Sl) (H : Hp) (K : Bool → Hp → Prop) : Prop :=
 Ct Tryd.prog 58 [(vs x0), (vs x1), (fC 59)] H [] (fun v H' Fo => ∃ (r0 : Bool), v = (vB r0) ∧ Fo = [] ∧ K r0 H') noQE
def a6X (x0 : j6) (x1 : j6) (H : Hp) (K : Bool → Hp → Prop) : Prop :=
 Ct Tryd.prog 35 [(Value.agg (f5 x0).toArray), (Value.agg (f5 x1).toArray)] H [] (fun v H' Fo => ∃ (r0 : Bool), v = (vB r0) ∧ Fo = [] ∧ K r0 H') noQE
def a0q (x0 : j6) (H : Hp) (K : Bool → Hp → Prop) : Prop :=
 Ct Tryd.prog 9 [(Value.agg (f5 x0).toArray)] H [] (fun v H' Fo => ∃ (r0 : Bool), v = (vB r0) ∧ Fo = [] ∧ K r0 H') noQE
def b0G (x0 : t1) (H : Hp) (K : Int → Hp → Prop) : Prop :=
 Ct Tryd.prog 92 [(Value.agg (p6 x0).toArray)] H [] (fun v H' Fo => ∃ (r0 : Int), v = (vi r0) ∧ Fo = [] ∧ K r0 H') noQE
def a4z (x0 : J4) (H : Hp) (K : Bool → Hp → Prop) : Prop :=
 Ct Tryd.prog 169 [(Value.agg (b6 x0.q9).toArray)] H [] (fun v H' Fo => ∃ (r0 : Bool), v = (vB r0) ∧ Fo = [] ∧ K r0 H') noQE
def a9u (x0 : b5) (H : Hp) (K : d7 → Hp → Prop) : Prop :=
 Ct Tryd.prog 172 [(Value.agg (b6 x0).toArray)] H [] (fun v H' Fo => ∃ (r0 : d7), v = (C0 r0) ∧ Fo = [] ∧ K r0 H') noQE
def A4 (x0 : Sl) (H : Hp) (K : Sl → Hp → Prop) : Prop :=
 Ct Tryd.prog 171 [(vs x0), (fC 172)] H [] (fun v H' Fo => ∃ (r0 : Sl), v = (vs r0) ∧ Fo = [] ∧ K r0 H') noQE
def a7t (x0 : J4) (H : Hp) (K : Sl → Hp → Prop) : Prop :=
 Ct Tryd.prog 170 [(Value.agg (b6 x0.q9).toArray)] H [] (fun v H' Fo => ∃ (r0 : Sl), v = (vs r0) ∧ Fo = [] ∧ K r0 H') noQE
def a4A (x0 : N0) (H : Hp) (K : Bool → Hp → Prop) : Prop :=
 Ct Tryd.prog 173 [(Value.agg (d5 x0.p5).toArray)] H [] (fun v H' Fo => ∃ (r0 : Bool), v = (vB r0) ∧ Fo = [] ∧ K r0 H') noQE
def a9v (x0 : b8) (H : Hp) (K : d7 → Hp → Prop) : Prop :=
 Ct Tryd.prog 176 [(Value.agg (d5 x0).toArray)] H [] (fun v H' Fo => ∃ (r0 : d7), v = (C0 r0) ∧ Fo = [] ∧ K r0 H') noQE
def E6 (x0 : Sl) (H : Hp) (K : Sl → Hp → Prop) : Prop :=
 Ct Tryd.prog 175 [(vs x0), (fC 176)] H [] (fun v H' Fo => ∃ (r0 : Sl), v = (vs r0) ∧ Fo = [] ∧ K r0 H') noQE
def a7u (x0 : N0) (H : Hp) (K : Sl → Hp → Prop) : Prop :=
 Ct Tryd.prog 174 [(Value.agg (d5 x0.p5).toArray)] H [] (fun v H' Fo => ∃ (r0 : Sl), v = (vs r0) ∧ Fo = [] ∧ K r0 H') noQE
def a8d (x0 : T3) (H : Hp) (K : Bool → Hp → Prop) : Prop :=
 Ct Tryd.prog 177 [(Value.agg (p6 x0.T4).toArray)] H [] (fun v H' Fo => ∃ (r0 : Bool), v = (vB r0) ∧ Fo = [] ∧ K r0 H') noQE
def a7v (x0 : T3) (H : Hp) (K : Sl → Hp → Prop) : Prop :=
 Ct Tryd.prog 178 [(Value.agg (p6 x0.T4).toArray)] H [] (fun v H' Fo => ∃ (r0 : Sl), v = (vs r0) ∧ Fo = [] ∧ K r0 H') noQE
def a4B (x0 : P8) (H : Hp) (K : Bool → Hp → Prop) : Prop :=
 Ct Tryd.prog 179 [(Value.agg (d8 x0.f7).toArray)] H [] (fun v H' Fo => ∃ (r0 : Bool), v = (vB r0) ∧ Fo = [] ∧ K r0 H') noQE
def a7w (x0 : P8) (H : Hp) (K : Sl → Hp → Prop) : Prop :=
 Ct Tryd.prog 180 [(Value.agg (d8 x0.f7).toArray)] H [] (fun v H' Fo => ∃ (r0 : Sl), v = (vs r0) ∧ Fo = [] ∧ K r0 H') noQE
def a6o (x : d7) (H : Hp) (K : Bool → Hp → Prop) : Prop := match x with
 | .nil => False
 | .F7 y => a4z y H K
 | .L8 y => a4A y H K
 | .N4 y => a8d y H K
 | .K7 y => a4B y H K
def a5S (x : d7) (H : Hp) (K : Sl → Hp → Prop) : Prop := match x with
 | .nil => False
 | .F7 y => a7t y H K
 | .L8 y => a7u y H K
 | .N4 y => a7v y H K
 | .K7 y => a7w y H K
theorem b5r {E : Pan} {w0 w : World} {ps : Nat → Prop} {H0 H : Hp} {Fr : List Frag} {K : RT} {Kc : Bool → Hp → Prop} {x : d7} (I : Inv w0 ps H0 H Fr w) (h : a6o x H Kc) (hq : ∀ (r0 : Bool) (H' : Hp) (w' : World), Inv w0 ps H0 H' Fr w' → Hle H H' → (∀ i, i < w.heap.size → ¬ inF [] i → w'.heap[i]? = w.heap[i]?) → Kc r0 H' → K (vB r0) w') : oP E (xInvoke (C0 x) "gnomon/tree.form" []) w K := by
 cases x with
 | nil => exact h.elim
 | F7 y => exact a6a (f := 169) (args := [(Value.agg (b6 y.q9).toArray)].toArray) (by kernel_rfl) (i8 (Fi := []) I h (fun v H' Fo w' I' l hk hq' => by obtain ⟨r0, rfl, rfl, hK⟩ := hq'; exact hq r0 H' w' I' l hk hK) (fun _ _ _ _ _ q => q.elim))
 | L8 y => exact a6a (f := 173) (args := [(Value.agg (d5 y.p5).toArray)].toArray) (by kernel_rfl) (i8 (Fi := []) I h (fun v H' Fo w' I' l hk hq' => by obtain ⟨r0, rfl, rfl, hK⟩ := hq'; exact hq r0 H' w' I' l hk hK) (fun _ _ _ _ _ q => q.elim))
 | N4 y => exact a6a (f := 177) (args := [(Value.agg (p6 y.T4).toArray)].toArray) (by kernel_rfl) (i8 (Fi := []) I h (fun v H' Fo w' I' l hk hq' => by obtain ⟨r0, rfl, rfl, hK⟩ := hq'; exact hq r0 H' w' I' l hk hK) (fun _ _ _ _ _ q => q.elim))
 | K7 y => exact a6a (f := 179) (args := [(Value.agg (d8 y.f7).toArray)].toArray) (by kernel_rfl) (i8 (Fi := []) I h (fun v H' Fo w' I' l hk hq' => by obtain ⟨r0, rfl, rfl, hK⟩ := hq'; exact hq r0 H' w' I' l hk hK) (fun _ _ _ _ _ q => q.elim))
theorem b4z {E : Pan} {w0 w : World} {ps : Nat → Prop} {H0 H : Hp} {Fr : List Frag} {K : RT} {Kc : Sl → Hp → Prop} {x : d7} (I : Inv w0 ps H0 H Fr w) (h : a5S x H Kc) (hq : ∀ (r0 : Sl) (H' : Hp) (w' : World), Inv w0 ps H0 H' Fr w' → Hle H H' → (∀ i, i < w.heap.size → ¬ inF [] i → w'.heap[i]? = w.heap[i]?) → Kc r0 H' → K (vs r0) w') : oP E (xInvoke (C0 x) "gnomon/tree.parts" []) w K := by
 cases x with
 | nil => exact h.elim
 | F7 y => exact a6a (f := 170) (args := [(Value.agg (b6 y.q9).toArray)].toArray) (by kernel_rfl) (i8 (Fi := []) I h (fun v H' Fo w' I' l hk hq' => by obtain ⟨r0, rfl, rfl, hK⟩ := hq'; exact hq r0 H' w' I' l hk hK) (fun _ _ _ _ _ q => q.elim))
 | L8 y => exact a6a (f := 174) (args := [(Value.agg (d5 y.p5).toArray)].toArray) (by kernel_rfl) (i8 (Fi := []) I h (fun v H' Fo w' I' l hk hq' => by obtain ⟨r0, rfl, rfl, hK⟩ := hq'; exact hq r0 H' w' I' l hk hK) (fun _ _ _ _ _ q => q.elim))
 | N4 y => exact a6a (f := 178) (args := [(Value.agg (p6 y.T4).toArray)].toArray) (by kernel_rfl) (i8 (Fi := []) I h (fun v H' Fo w' I' l hk hq' => by obtain ⟨r0, rfl, rfl, hK⟩ := hq'; exact hq r0 H' w' I' l hk hK) (fun _ _ _ _ _ q => q.elim))
 | K7 y => exact a6a (f := 180) (args := [(Value.agg (d8 y.f7).toArray)].toArray) (by kernel_rfl) (i8 (Fi := []) I h (fun v H' Fo w' I' l hk hq' => by obtain ⟨r0, rfl, rfl, hK⟩ := hq'; exact hq r0 H' w' I' l hk hK) (fun _ _ _ _ _ q => q.elim))
end Go.Proofs.YtnhkdkcgdcgmdaaDoor
