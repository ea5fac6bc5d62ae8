/- Contracts of the program's functions; printed by lift.py off the code. -/
import Derived.Test.YtnhkdkcgdcgmdaaDoorzDU1
import Derived.Test.YtnhkdkcgdcgmdaaDoorzDG1a
namespace Go.Proofs.YtnhkdkcgdcgmdaaDoor
open Go.RowKit
set_option maxRecDepth 100000
set_option maxHeartbeats 2000000
def a0f (x0 : a8) (H : Hp) (K : ByteArray → Bool → Hp → Prop) : Prop :=
 Ct Tryd.prog 118 [(r9 x0)] H [] (fun v H' Fo => ∃ (r0 : ByteArray) (r1 : Bool), v = (Value.tuple #[(Value.string r0), (vB r1)]) ∧ Fo = [] ∧ K r0 r1 H') noQE
def D8 (x0 : Int) (x1 : Int) (x2 : Int) (H : Hp) (K : Bool → Hp → Prop) : Prop :=
 ∀ (g2 : Nat), Ct Tryd.prog 151 [(Value.int .i32 x0), (Value.int .i32 x1), (Value.pointer (some ⟨g2, 0, none⟩))] H [bx g2 21 [(Value.int .i32 x2)]] (fun v H' Fo => ∃ (r0 : Bool), v = (vB r0) ∧ Fo = [bx g2 21 [(Value.int .i32 x2)]] ∧ K r0 H') noQE
def a0W (x0 : Int) (H : Hp) (K : Int → Hp → Prop) : Prop :=
 Ct Tryd.prog 141 [(Value.int .i32 x0)] H [] (fun v H' Fo => ∃ (r0 : Int), v = (vi r0) ∧ Fo = [] ∧ K r0 H') noQE
def a2W (x0 : Int) (H : Hp) (K : Bool → Hp → Prop) : Prop :=
 Ct Tryd.prog 140 [(Value.int .i32 x0)] H [] (fun v H' Fo => ∃ (r0 : Bool), v = (vB r0) ∧ Fo = [] ∧ K r0 H') noQE
def a2P (x0 : ByteArray) (H : Hp) (K : Bool → Hp → Prop) : Prop :=
 Ct Tryd.prog 137 [(Value.string x0)] H [] (fun v H' Fo => ∃ (r0 : Bool), v = (vB r0) ∧ Fo = [] ∧ K r0 H') noQE
def S7 (x0 : ByteArray) (H : Hp) (K : Int → Hp → Prop) : Prop :=
 Ct Tryd.prog 150 [(Value.string x0)] H [] (fun v H' Fo => ∃ (r0 : Int), v = (vi r0) ∧ Fo = [] ∧ K r0 H') noQE
def a1I (x0 : ByteArray) (H : Hp) (K : Bool → Hp → Prop) : Prop :=
 Ct Tryd.prog 138 [(Value.string x0)] H [] (fun v H' Fo => ∃ (r0 : Bool), v = (vB r0) ∧ Fo = [] ∧ K r0 H') noQE
def a0u (x0 : ByteArray) (H : Hp) (K : Bool → Hp → Prop) : Prop :=
 Ct Tryd.prog 139 [(Value.string x0)] H [] (fun v H' Fo => ∃ (r0 : Bool), v = (vB r0) ∧ Fo = [] ∧ K r0 H') noQE
def a1J (x0 : ByteArray) (H : Hp) (K : Bool → Hp → Prop) : Prop :=
 Ct Tryd.prog 119 [(Value.string x0)] H [] (fun v H' Fo => ∃ (r0 : Bool), v = (vB r0) ∧ Fo = [] ∧ K r0 H') noQE
def X7 (x0 : (List ByteArray)) (x1 : ByteArray) (H : Hp) (K : Int → Hp → Prop) : Prop :=
 ∀ (sx0 : Sl) (Fx0 : Frag), RowL 9 1 B6 sx0 x0 Fx0 → Ct Tryd.prog 142 [(vs sx0), (Value.string x1)] H [Fx0] (fun v H' Fo => ∃ (r0 : Int), v = (vi r0) ∧ Fo = [Fx0] ∧ K r0 H') noQE
def G4 (x0 : (List ByteArray)) (x1 : ByteArray) (H : Hp) (K : Bool → Hp → Prop) : Prop :=
 ∀ (sx0 : Sl) (Fx0 : Frag), RowL 9 1 B6 sx0 x0 Fx0 → Ct Tryd.prog 120 [(vs sx0), (Value.string x1)] H [Fx0] (fun v H' Fo => ∃ (r0 : Bool), v = (vB r0) ∧ Fo = [Fx0] ∧ K r0 H') noQE
def a0l (x0 : g7) (S8 : (List ByteArray)) (x1 : a8) (x2 : Int) (H : Hp) (K : Bool → g7 → (List ByteArray) → Hp → Prop) : Prop :=
 ∀ (g0 : Nat), ∀ (Q9 : Sl) (a1w : Frag), RowL 9 1 B6 Q9 S8 a1w → Ct Tryd.prog 100 [(Value.pointer (some ⟨g0, 0, none⟩)), (r9 x1), (vi x2)] H [bx g0 106 [(vi x0.fnodes), (vi x0.fdepth), (vi x0.fe), (vB x0.fform), (vB x0.fnamed), (vs Q9)], a1w] (fun v H' Fo => ∃ (r0 : Bool) (y0 : g7) (a4r : (List ByteArray)) (a2t : Sl) (a2u : Frag), v = (vB r0) ∧ Fo = [bx g0 106 [(vi y0.fnodes), (vi y0.fdepth), (vi y0.fe), (vB y0.fform), (vB y0.fnamed), (vs a2t)], a2u] ∧ RowL 9 1 B6 a2t a4r a2u ∧ K r0 y0 a4r H') noQE
def S0 (x0 : Sl) (x1 : Int) (x2 : g7) (a7N : (List ByteArray)) (H : Hp) (K : Bool → g7 → (List ByteArray) → Hp → Prop) : Prop :=
 ∀ (g2 g2b g3 : Nat), ∀ (a9d : Sl) (a9e : Frag), RowL 9 1 B6 a9d a7N a9e → Ct Tryd.prog 99 [(vs x0), (vi x1), (Value.pointer (some ⟨g2, 0, none⟩)), (Value.pointer (some ⟨g3, 0, none⟩))] H [bx g2 102 [(Value.pointer (some ⟨g2b, 0, none⟩))], bx g2b 106 [(vi x2.fnodes), (vi x2.fdepth), (vi x2.fe), (vB x2.fform), (vB x2.fnamed), (vs a9d)], a9e, bx g3 161 [(Value.func (.func 99) #[] #[(Value.pointer (some ⟨g2, 0, none⟩)), (Value.pointer (some ⟨g3, 0, none⟩))])]] (fun v H' Fo => ∃ (r0 : Bool) (y0 : g7) (a4r : (List ByteArray)) (a2t : Sl) (a2u : Frag), v = (vB r0) ∧ Fo = [bx g2 102 [(Value.pointer (some ⟨g2b, 0, none⟩))], bx g2b 106 [(vi y0.fnodes), (vi y0.fdepth), (vi y0.fe), (vB y0.fform), (vB y0.fnamed), (vs a2t)], a2u, bx g3 161 [(Value.func (.func 99) #[] #[(Value.pointer (some ⟨g2, 0, none⟩)), (Value.pointer (some ⟨g3, 0, none⟩))])]] ∧ RowL 9 1 B6 a2t a4r a2u ∧ K r0 y0 a4r H') noQE
def a2v (x0 : Sl) (H : Hp) (K : g7 → Hp → Prop) : Prop :=
 Ct Tryd.prog 60 [(vs x0)] H [] (fun v H' Fo => ∃ (r0 : g7) (gr0 : Nat), v = (Value.pointer (some ⟨gr0, 0, none⟩)) ∧ Fo = [bx gr0 106 (a3x r0)] ∧ K r0 H') noQE
def a2w (x0 : Int) (x1 : Int) (H : Hp) (K : Int → Int → Hp → Prop) : Prop :=
 Ct Tryd.prog 27 [(vi x0), (vi x1)] H [] (fun v H' Fo => ∃ (r0 : Int) (r1 : Int), v = (Value.tuple #[(vi r0), (vi r1)]) ∧ Fo = [] ∧ K r0 r1 H') noQE
def a7O (x0 : Int) (H : Hp) (K : Int → Int → Hp → Prop) : Prop :=
 Ct Tryd.prog 101 [(vi x0)] H [] (fun v H' Fo => ∃ (r0 : Int) (r1 : Int), v = (Value.tuple #[(vi r0), (vi r1)]) ∧ Fo = [] ∧ K r0 r1 H') noQE
def a4s (x0 : Int) (x1 : Int) (H : Hp) (K : Int → Int → Hp → Prop) : Prop :=
 Ct Tryd.prog 26 [(vi x0), (vi x1)] H [] (fun v H' Fo => ∃ (r0 : Int) (r1 : Int), v = (Value.tuple #[(vi r0), (vi r1)]) ∧ Fo = [] ∧ K r0 r1 H') noQE
def a1K (x0 : Int) (H : Hp) (K : Int → Hp → Prop) : Prop :=
 Ct Tryd.prog 48 [(vi x0)] H [] (fun v H' Fo => ∃ (r0 : Int), v = (Value.int .u64 r0) ∧ Fo = [] ∧ K r0 H') noQE
def a3R (x0 : Int) (x1 : Int) (H : Hp) (K : Int → Int → Hp → Prop) : Prop :=
 Ct Tryd.prog 47 [(Value.int .u64 x0), (Value.int .u64 x1)] H [] (fun v H' Fo => ∃ (r0 : Int) (r1 : Int), v = (Value.tuple #[(Value.int .u64 r0), (Value.int .u64 r1)]) ∧ Fo = [] ∧ K r0 r1 H') noQE
def a4t (x0 : Int) (x1 : Int) (H : Hp) (K : Int → Int → Hp → Prop) : Prop :=
 Ct Tryd.prog 28 [(vi x0), (vi x1)] H [] (fun v H' Fo => ∃ (r0 : Int) (r1 : Int), v = (Value.tuple #[(vi r0), (vi r1)]) ∧ Fo = [] ∧ K r0 r1 H') noQE
def a0z (x0 : Int) (x1 : Int) (H : Hp) (K : Int → Hp → Prop) : Prop :=
 Ct Tryd.prog 49 [(vi x0), (vi x1)] H [] (fun v H' Fo => ∃ (r0 : Int), v = (vi r0) ∧ Fo = [] ∧ K r0 H') noQE
def a4u (x0 : Int) (x1 : Int) (H : Hp) (K : Int → Int → Hp → Prop) : Prop :=
 Ct Tryd.prog 29 [(vi x0), (vi x1)] H [] (fun v H' Fo => ∃ (r0 : Int) (r1 : Int), v = (Value.tuple #[(vi r0), (vi r1)]) ∧ Fo = [] ∧ K r0 r1 H') noQE
def a4v (x0 : Int) (x1 : Int) (H : Hp) (K : Int → Int → Hp → Prop) : Prop :=
 Ct Tryd.prog 30 [(vi x0), (vi x1)] H [] (fun v H' Fo => ∃ (r0 : Int) (r1 : Int), v = (Value.tuple #[(vi r0), (vi r1)]) ∧ Fo = [] ∧ K r0 r1 H') noQE
def a2b (H : Hp) (K : Hp → Prop) : Prop :=
 Ct Tryd.prog 110 [] H [] (fun v H' Fo => v = (Value.agg #[(fC 123), (fC 124), (fC 125), (fC 126), (fC 127), (fC 128), (fC 129)]) ∧ Fo = [] ∧ K H') noQE
def b2Z (x0 : Int) (x1 : Int) (H : Hp) (K : Bool → Hp → Prop) : Prop :=
 Ct Tryd.prog 123 [(vi x0), (vi x1)] H [] (fun v H' Fo => ∃ (r0 : Bool), v = (vB r0) ∧ Fo = [] ∧ K r0 H') noQE
def a3K (x0 : Int) (x1 : Int) (H : Hp) (K : Bool → Hp → Prop) : Prop :=
 Ct Tryd.prog 124 [(vi x0), (vi x1)] H [] (fun v H' Fo => ∃ (r0 : Bool), v = (vB r0) ∧ Fo = [] ∧ K r0 H') noQE
def a3L (x0 : Int) (x1 : Int) (H : Hp) (K : Bool → Hp → Prop) : Prop :=
 Ct Tryd.prog 125 [(vi x0), (vi x1)] H [] (fun v H' Fo => ∃ (r0 : Bool), v = (vB r0) ∧ Fo = [] ∧ K r0 H') noQE
def a3M (x0 : Int) (x1 : Int) (H : Hp) (K : Bool → Hp → Prop) : Prop :=
 Ct Tryd.prog 126 [(vi x0), (vi x1)] H [] (fun v H' Fo => ∃ (r0 : Bool), v = (vB r0) ∧ Fo = [] ∧ K r0 H') noQE
def a3N (x0 : Int) (x1 : Int) (H : Hp) (K : Bool → Hp → Prop) : Prop :=
 Ct Tryd.prog 127 [(vi x0), (vi x1)] H [] (fun v H' Fo => ∃ (r0 : Bool), v = (vB r0) ∧ Fo = [] ∧ K r0 H') noQE
def a3O (x0 : Int) (x1 : Int) (H : Hp) (K : Bool → Hp → Prop) : Prop :=
 Ct Tryd.prog 128 [(vi x0), (vi x1)] H [] (fun v H' Fo => ∃ (r0 : Bool), v = (vB r0) ∧ Fo = [] ∧ K r0 H') noQE
def a3P (x0 : Int) (x1 : Int) (H : Hp) (K : Bool → Hp → Prop) : Prop :=
 Ct Tryd.prog 129 [(vi x0), (vi x1)] H [] (fun v H' Fo => ∃ (r0 : Bool), v = (vB r0) ∧ Fo = [] ∧ K r0 H') noQE
def a7P (x0 : Int) (x1 : Int) (x2 : Int) (H : Hp) (K : Bool → Hp → Prop) : Prop :=
 Ct Tryd.prog 75 [(vi x0), (vi x1), (vi x2)] H [] (fun v H' Fo => ∃ (r0 : Bool), v = (vB r0) ∧ Fo = [] ∧ K r0 H') noQE
def a4w (x0 : A5) (x1 : Sl) (x2 : Int) (H : Hp) (K : M9 → Int → Hp → Prop) : Prop :=
 Ct Tryd.prog 18 [(Value.agg (t7 x0).toArray), (vs x1), (vi x2)] H [] (fun v H' Fo => ∃ (r0 : M9) (r1 : Int), v = (Value.tuple #[(Value.agg (o9 r0).toArray), (vi r1)]) ∧ Fo = [] ∧ K r0 r1 H') noQE
def a0A (H : Hp) (K : Bool → Hp → Prop) : Prop :=
 Ct Tryd.prog 17 [] H [] (fun v H' Fo => ∃ (r0 : Bool), v = (vB r0) ∧ Fo = [] ∧ K r0 H') noQE
def S3 (x0 : Int) (H : Hp) (K : d8 → Hp → Prop) : Prop :=
 Ct Tryd.prog 23 [(vi x0)] H [] (fun v H' Fo => ∃ (r0 : d8), v = (Value.agg (b6 r0).toArray) ∧ Fo = [] ∧ K r0 H') noQE
def a1g (x0 : Int) (x1 : d8) (x2 : d8) (H : Hp) (K : d8 → Hp → Prop) : Prop :=
 Ct Tryd.prog 25 [(vi x0), (Value.agg (b6 x1).toArray), (Value.agg (b6 x2).toArray)] H [] (fun v H' Fo => ∃ (r0 : d8), v = (Value.agg (b6 r0).toArray) ∧ Fo = [] ∧ K r0 H') noQE
def a0R (x0 : ByteArray) (x1 : d8) (H : Hp) (K : m6 → Hp → Prop) : Prop :=
 Ct Tryd.prog 24 [(Value.string x0), (Value.agg (b6 x1).toArray)] H [] (fun v H' Fo => ∃ (r0 : m6), v = (Value.agg (f2 r0).toArray) ∧ Fo = [] ∧ K r0 H') noQE
def R0 (x0 : Int) (x1 : Int) (x2 : Int) (H : Hp) (K : Bool → Hp → Prop) : Prop :=
 Ct Tryd.prog 6 [(vi x0), (vi x1), (vi x2)] H [] (fun v H' Fo => ∃ (r0 : Bool), v = (vB r0) ∧ Fo = [] ∧ K r0 H') noQE
def a5o (x0 : i7) (H : Hp) (K : a8 → Hp → Prop) : Prop :=
 Ct Tryd.prog 89 [(Value.agg (l9 x0).toArray)] H [] (fun v H' Fo => ∃ (r0 : a8), v = (r9 r0) ∧ Fo = [] ∧ K r0 H') noQE
def C9 (x0 : Sl) (H : Hp) (K : Sl → Hp → Prop) : Prop :=
 Ct Tryd.prog 88 [(vs x0), (fC 89)] H [] (fun v H' Fo => ∃ (r0 : Sl), v = (vs r0) ∧ Fo = [] ∧ K r0 H') noQE
def a5p (x0 : m6) (H : Hp) (K : a8 → Hp → Prop) : Prop :=
 Ct Tryd.prog 91 [(Value.agg (f2 x0).toArray)] H [] (fun v H' Fo => ∃ (r0 : a8), v = (r9 r0) ∧ Fo = [] ∧ K r0 H') noQE
def p9 (x0 : Sl) (H : Hp) (K : Sl → Hp → Prop) : Prop :=
 Ct Tryd.prog 90 [(vs x0), (fC 91)] H [] (fun v H' Fo => ∃ (r0 : Sl), v = (vs r0) ∧ Fo = [] ∧ K r0 H') noQE
def L9 (x1 : Int) (H : Hp) (K : (List a8) → Hp → Prop) : Prop :=
 Ct Tryd.prog 117 [(nS), (vi x1)] H [] (fun v H' Fo => ∃ (r0 : (List a8)) (sr0 : Sl) (Fr0 : Frag), v = (vs sr0) ∧ Fo = [Fr0] ∧ RowL 152 1 m7 sr0 r0 Fr0 ∧ K r0 H') noQE
def v7 (x0 : Sl) (H : Hp) (K : Sl → Hp → Prop) : Prop :=
 Ct Tryd.prog 87 [(vs x0)] H [] (fun v H' Fo => ∃ (r0 : Sl), v = (vs r0) ∧ Fo = [] ∧ K r0 H') noQE
def a3S (x0 : A5) (H : Hp) (K : g7 → Hp → Prop) : Prop :=
 Ct Tryd.prog 52 [(Value.agg (t7 x0).toArray)] H [] (fun v H' Fo => ∃ (r0 : g7) (gr0 : Nat), v = (Value.pointer (some ⟨gr0, 0, none⟩)) ∧ Fo = [bx gr0 106 (a3x r0)] ∧ K r0 H') noQE
def a2X (x0 : A5) (H : Hp) (K : Int → Hp → Prop) : Prop :=
 Ct Tryd.prog 53 [(Value.agg (t7 x0).toArray)] H [] (fun v H' Fo => ∃ (r0 : Int), v = (vi r0) ∧ Fo = [] ∧ K r0 H') noQE
def a4a (x0 : Sl) (H : Hp) (K : (Option Nat) → ByteArray → Int → Hp → Prop) : Prop :=
 Ct Tryd.prog 54 [(vs x0)] H [] (fun v H' Fo => ∃ (r0 : (Option Nat)) (r1 : ByteArray) (r2 : Int), v = (Value.tuple #[(Value.map r0), (Value.string r1), (vi r2)]) ∧ Fo = [] ∧ K r0 r1 r2 H') noQE
def O2 (x0 : d9) (K1 : (List b7)) (x1 : d8) (H : Hp) (K : d9 → (List b7) → Hp → Prop) : Prop :=
 ∀ (g0 : Nat), ∀ (N3 : Sl) (R1 : Frag), RowL 117 2 o2 N3 K1 R1 → Ct Tryd.prog 94 [(Value.pointer (some ⟨g0, 0, none⟩)), (Value.agg (b6 x1).toArray)] H [bx g0 114 [(vs N3)], R1] (fun v H' Fo => ∃ (y0 : d9) (a0S : (List b7)) (U3 : Sl) (U4 : Frag), v = (Value.tuple #[]) ∧ Fo = [bx g0 114 [(vs U3)], U4] ∧ RowL 117 2 o2 U3 a0S U4 ∧ K y0 a0S H') noQE
def T1 (x0 : d9) (K1 : (List b7)) (x1 : t6) (H : Hp) (K : d9 → (List b7) → Hp → Prop) : Prop :=
 ∀ (g0 : Nat), ∀ (N3 : Sl) (R1 : Frag), RowL 117 2 o2 N3 K1 R1 → Ct Tryd.prog 93 [(Value.pointer (some ⟨g0, 0, none⟩)), (Value.agg (i4 x1).toArray)] H [bx g0 114 [(vs N3)], R1] (fun v H' Fo => ∃ (y0 : d9) (a0S : (List b7)) (U3 : Sl) (U4 : Frag), v = (Value.tuple #[]) ∧ Fo = [bx g0 114 [(vs U3)], U4] ∧ RowL 117 2 o2 U3 a0S U4 ∧ K y0 a0S H') noQE
def N1 (x0 : d9) (K1 : (List b7)) (x1 : Sl) (H : Hp) (K : d9 → (List b7) → Hp → Prop) : Prop :=
 ∀ (g0 : Nat), ∀ (N3 : Sl) (R1 : Frag), RowL 117 2 o2 N3 K1 R1 → Ct Tryd.prog 55 [(Value.pointer (some ⟨g0, 0, none⟩)), (vs x1)] H [bx g0 114 [(vs N3)], R1] (fun v H' Fo => ∃ (y0 : d9) (a0S : (List b7)) (U3 : Sl) (U4 : Frag), v = (Value.tuple #[]) ∧ Fo = [bx g0 114 [(vs U3)], U4] ∧ RowL 117 2 o2 U3 a0S U4 ∧ K y0 a0S H') noQE
def a5x (x0 : A5) (H : Hp) (K : ByteArray → Int → Hp → Prop) : Prop :=
 Ct Tryd.prog 34 [(Value.agg (t7 x0).toArray)] H [] (fun v H' Fo => ∃ (r0 : ByteArray) (r1 : Int), v = (Value.tuple #[(Value.string r0), (vi r1)]) ∧ Fo = [] ∧ K r0 r1 H') noQE
def a6q (x0 : i7) (H : Hp) (K : Int → Hp → Prop) : Prop :=
 Ct Tryd.prog 92 [(Value.agg (l9 x0).toArray)] H [] (fun v H' Fo => ∃ (r0 : Int), v = (vi r0) ∧ Fo = [] ∧ K r0 H') noQE
def a4N (x0 : d8) (H : Hp) (K : Int → Bool → Hp → Prop) : Prop :=
 Ct Tryd.prog 146 [(Value.agg (b6 x0).toArray)] H [] (fun v H' Fo => ∃ (r0 : Int) (r1 : Bool), v = (Value.tuple #[(vi r0), (vB r1)]) ∧ Fo = [] ∧ K r0 r1 H') noQE
def a1h (x0 : D2) (H : Hp) (K : Bool → Hp → Prop) : Prop :=
 Ct Tryd.prog 169 [(Value.agg (b6 x0.k5).toArray)] H [] (fun v H' Fo => ∃ (r0 : Bool), v = (vB r0) ∧ Fo = [] ∧ K r0 H') noQE
def a5q (x0 : d8) (H : Hp) (K : a8 → Hp → Prop) : Prop :=
 Ct Tryd.prog 172 [(Value.agg (b6 x0).toArray)] H [] (fun v H' Fo => ∃ (r0 : a8), v = (r9 r0) ∧ Fo = [] ∧ K r0 H') noQE
def q7 (x0 : Sl) (H : Hp) (K : Sl → Hp → Prop) : Prop :=
 Ct Tryd.prog 171 [(vs x0), (fC 172)] H [] (fun v H' Fo => ∃ (r0 : Sl), v = (vs r0) ∧ Fo = [] ∧ K r0 H') noQE
def a3e (x0 : D2) (H : Hp) (K : Sl → Hp → Prop) : Prop :=
 Ct Tryd.prog 170 [(Value.agg (b6 x0.k5).toArray)] H [] (fun v H' Fo => ∃ (r0 : Sl), v = (vs r0) ∧ Fo = [] ∧ K r0 H') noQE
def a1i (x0 : H9) (H : Hp) (K : Bool → Hp → Prop) : Prop :=
 Ct Tryd.prog 173 [(Value.agg (i4 x0.j8).toArray)] H [] (fun v H' Fo => ∃ (r0 : Bool), v = (vB r0) ∧ Fo = [] ∧ K r0 H') noQE
def a5r (x0 : t6) (H : Hp) (K : a8 → Hp → Prop) : Prop :=
 Ct Tryd.prog 176 [(Value.agg (i4 x0).toArray)] H [] (fun v H' Fo => ∃ (r0 : a8), v = (r9 r0) ∧ Fo = [] ∧ K r0 H') noQE
def y6 (x0 : Sl) (H : Hp) (K : Sl → Hp → Prop) : Prop :=
 Ct Tryd.prog 175 [(vs x0), (fC 176)] H [] (fun v H' Fo => ∃ (r0 : Sl), v = (vs r0) ∧ Fo = [] ∧ K r0 H') noQE
def a3f (x0 : H9) (H : Hp) (K : Sl → Hp → Prop) : Prop :=
 Ct Tryd.prog 174 [(Value.agg (i4 x0.j8).toArray)] H [] (fun v H' Fo => ∃ (r0 : Sl), v = (vs r0) ∧ Fo = [] ∧ K r0 H') noQE
def a3Q (x0 : M2) (H : Hp) (K : Bool → Hp → Prop) : Prop :=
 Ct Tryd.prog 177 [(Value.agg (l9 x0.M3).toArray)] H [] (fun v H' Fo => ∃ (r0 : Bool), v = (vB r0) ∧ Fo = [] ∧ K r0 H') noQE
def a3g (x0 : M2) (H : Hp) (K : Sl → Hp → Prop) : Prop :=
 Ct Tryd.prog 178 [(Value.agg (l9 x0.M3).toArray)] H [] (fun v H' Fo => ∃ (r0 : Sl), v = (vs r0) ∧ Fo = [] ∧ K r0 H') noQE
def a1j (x0 : I0) (H : Hp) (K : Bool → Hp → Prop) : Prop :=
 Ct Tryd.prog 179 [(Value.agg (f2 x0.d7).toArray)] H [] (fun v H' Fo => ∃ (r0 : Bool), v = (vB r0) ∧ Fo = [] ∧ K r0 H') noQE
def a3h (x0 : I0) (H : Hp) (K : Sl → Hp → Prop) : Prop :=
 Ct Tryd.prog 180 [(Value.agg (f2 x0.d7).toArray)] H [] (fun v H' Fo => ∃ (r0 : Sl), v = (vs r0) ∧ Fo = [] ∧ K r0 H') noQE
def a2x (x : a8) (H : Hp) (K : Bool → Hp → Prop) : Prop := match x with
 | .nil => False
 | .B7 y => a1h y H K
 | .F0 y => a1i y H K
 | .E1 y => a3Q y H K
 | .C3 y => a1j y H K
def a2d (x : a8) (H : Hp) (K : Sl → Hp → Prop) : Prop := match x with
 | .nil => False
 | .B7 y => a3e y H K
 | .F0 y => a3f y H K
 | .E1 y => a3g y H K
 | .C3 y => a3h y H K
theorem b0a {E : Pan} {w0 w : World} {ps : Nat → Prop} {H0 H : Hp} {Fr : List Frag} {K : RT} {Kc : Bool → Hp → Prop} {x : a8} (I : Inv w0 ps H0 H Fr w) (h : a2x x H Kc) (hq : ∀ (r0 : Bool) (H' : Hp) (w' : World), Inv w0 ps H0 H' Fr w' → Hle H H' → (∀ i, i < w.heap.size → ¬ inF [] i → w'.heap[i]? = w.heap[i]?) → Kc r0 H' → K (vB r0) w') : oP E (xInvoke (r9 x) "gnomon/tree.form" []) w K := by
 cases x with
 | nil => exact h.elim
 | B7 y => exact a2i (f := 169) (args := [(Value.agg (b6 y.k5).toArray)].toArray) (by kernel_rfl) (m2 (Fi := []) I h (fun v H' Fo w' I' l hk hq' => by obtain ⟨r0, rfl, rfl, hK⟩ := hq'; exact hq r0 H' w' I' l hk hK) (fun _ _ _ _ _ q => q.elim))
 | F0 y => exact a2i (f := 173) (args := [(Value.agg (i4 y.j8).toArray)].toArray) (by kernel_rfl) (m2 (Fi := []) I h (fun v H' Fo w' I' l hk hq' => by obtain ⟨r0, rfl, rfl, hK⟩ := hq'; exact hq r0 H' w' I' l hk hK) (fun _ _ _ _ _ q => q.elim))
 | E1 y => exact a2i (f := 177) (args := [(Value.agg (l9 y.M3).toArray)].toArray) (by kernel_rfl) (m2 (Fi := []) I h (fun v H' Fo w' I' l hk hq' => by obtain ⟨r0, rfl, rfl, hK⟩ := hq'; exact hq r0 H' w' I' l hk hK) (fun _ _ _ _ _ q => q.elim))
 | C3 y => exact a2i (f := 179) (args := [(Value.agg (f2 y.d7).toArray)].toArray) (by kernel_rfl) (m2 (Fi := []) I h (fun v H' Fo w' I' l hk hq' => by obtain ⟨r0, rfl, rfl, hK⟩ := hq'; exact hq r0 H' w' I' l hk hK) (fun _ _ _ _ _ q => q.elim))
theorem a9A {E : Pan} {w0 w : World} {ps : Nat → Prop} {H0 H : Hp} {Fr : List Frag} {K : RT} {Kc : Sl → Hp → Prop} {x : a8} (I : Inv w0 ps H0 H Fr w) (h : a2d x H Kc) (hq : ∀ (r0 : Sl) (H' : Hp) (w' : World), Inv w0 ps H0 H' Fr w' → Hle H H' → (∀ i, i < w.heap.size → ¬ inF [] i → w'.heap[i]? = w.heap[i]?) → Kc r0 H' → K (vs r0) w') : oP E (xInvoke (r9 x) "gnomon/tree.parts" []) w K := by
 cases x with
 | nil => exact h.elim
 | B7 y => exact a2i (f := 170) (args := [(Value.agg (b6 y.k5).toArray)].toArray) (by kernel_rfl) (m2 (Fi := []) I h (fun v H' Fo w' I' l hk hq' => by obtain ⟨r0, rfl, rfl, hK⟩ := hq'; exact hq r0 H' w' I' l hk hK) (fun _ _ _ _ _ q => q.elim))
 | F0 y => exact a2i (f := 174) (args := [(Value.agg (i4 y.j8).toArray)].toArray) (by kernel_rfl) (m2 (Fi := []) I h (fun v H' Fo w' I' l hk hq' => by obtain ⟨r0, rfl, rfl, hK⟩ := hq'; exact hq r0 H' w' I' l hk hK) (fun _ _ _ _ _ q => q.elim))
 | E1 y => exact a2i (f := 178) (args := [(Value.agg (l9 y.M3).toArray)].toArray) (by kernel_rfl) (m2 (Fi := []) I h (fun v H' Fo w' I' l hk hq' => by obtain ⟨r0, rfl, rfl, hK⟩ := hq'; exact hq r0 H' w' I' l hk hK) (fun _ _ _ _ _ q => q.elim))
 | C3 y => exact a2i (f := 180) (args := [(Value.agg (f2 y.d7).toArray)].toArray) (by kernel_rfl) (m2 (Fi := []) I h (fun v H' Fo w' I' l hk hq' => by obtain ⟨r0, rfl, rfl, hK⟩ := hq'; exact hq r0 H' w' I' l hk hK) (fun _ _ _ _ _ q => q.elim))
end Go.Proofs.YtnhkdkcgdcgmdaaDoor
