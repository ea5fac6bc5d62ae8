/- Contracts of the program's functions; printed by lift.py off the code. -/
import Derived.Test.YtnhkdkcgdcgmdaaDoorzLU1
import Derived.Test.YtnhkdkcgdcgmdaaDoorzLG1a
namespace Go.Proofs.YtnhkdkcgdcgmdaaDoor
open Go.RowKit
set_option maxRecDepth 100000
set_option maxHeartbeats 2000000
def a0r (x0 : a8) (H : Hp) (K : ByteArray → Bool → Hp → Prop) : Prop :=
 Ct Tryd.prog 118 [(t8 x0)] H [] (fun v H' Fo => ∃ (r0 : ByteArray) (r1 : Bool), v = (Value.tuple #[(Value.string r0), (vB r1)]) ∧ Fo = [] ∧ K r0 r1 H') noQE
def E5 (x0 : Int) (x1 : Int) (x2 : Int) (H : Hp) (K : Bool → Hp → Prop) : Prop :=
 ∀ (g2 : Nat), Ct Tryd.prog 151 [(Value.int .i32 x0), (Value.int .i32 x1), (Value.pointer (some ⟨g2, 0, none⟩))] H [bx g2 21 [(Value.int .i32 x2)]] (fun v H' Fo => ∃ (r0 : Bool), v = (vB r0) ∧ Fo = [bx g2 21 [(Value.int .i32 x2)]] ∧ K r0 H') noQE
def a1l (x0 : Int) (H : Hp) (K : Int → Hp → Prop) : Prop :=
 Ct Tryd.prog 141 [(Value.int .i32 x0)] H [] (fun v H' Fo => ∃ (r0 : Int), v = (vi r0) ∧ Fo = [] ∧ K r0 H') noQE
def a3m (x0 : Int) (H : Hp) (K : Bool → Hp → Prop) : Prop :=
 Ct Tryd.prog 140 [(Value.int .i32 x0)] H [] (fun v H' Fo => ∃ (r0 : Bool), v = (vB r0) ∧ Fo = [] ∧ K r0 H') noQE
def a3e (x0 : ByteArray) (H : Hp) (K : Bool → Hp → Prop) : Prop :=
 Ct Tryd.prog 137 [(Value.string x0)] H [] (fun v H' Fo => ∃ (r0 : Bool), v = (vB r0) ∧ Fo = [] ∧ K r0 H') noQE
def T3 (x0 : ByteArray) (H : Hp) (K : Int → Hp → Prop) : Prop :=
 Ct Tryd.prog 150 [(Value.string x0)] H [] (fun v H' Fo => ∃ (r0 : Int), v = (vi r0) ∧ Fo = [] ∧ K r0 H') noQE
def a1R (x0 : ByteArray) (H : Hp) (K : Bool → Hp → Prop) : Prop :=
 Ct Tryd.prog 138 [(Value.string x0)] H [] (fun v H' Fo => ∃ (r0 : Bool), v = (vB r0) ∧ Fo = [] ∧ K r0 H') noQE
def a0E (x0 : ByteArray) (H : Hp) (K : Bool → Hp → Prop) : Prop :=
 Ct Tryd.prog 139 [(Value.string x0)] H [] (fun v H' Fo => ∃ (r0 : Bool), v = (vB r0) ∧ Fo = [] ∧ K r0 H') noQE
def a1S (x0 : ByteArray) (H : Hp) (K : Bool → Hp → Prop) : Prop :=
 Ct Tryd.prog 119 [(Value.string x0)] H [] (fun v H' Fo => ∃ (r0 : Bool), v = (vB r0) ∧ Fo = [] ∧ K r0 H') noQE
def Y7 (x0 : (List ByteArray)) (x1 : ByteArray) (H : Hp) (K : Int → Hp → Prop) : Prop :=
 ∀ (sx0 : Sl) (Fx0 : Frag), RowL 9 1 C1 sx0 x0 Fx0 → Ct Tryd.prog 142 [(vs sx0), (Value.string x1)] H [Fx0] (fun v H' Fo => ∃ (r0 : Int), v = (vi r0) ∧ Fo = [Fx0] ∧ K r0 H') noQE
def I0 (x0 : (List ByteArray)) (x1 : ByteArray) (H : Hp) (K : Bool → Hp → Prop) : Prop :=
 ∀ (sx0 : Sl) (Fx0 : Frag), RowL 9 1 C1 sx0 x0 Fx0 → Ct Tryd.prog 120 [(vs sx0), (Value.string x1)] H [Fx0] (fun v H' Fo => ∃ (r0 : Bool), v = (vB r0) ∧ Fo = [Fx0] ∧ K r0 H') noQE
def a0v (x0 : g8) (T4 : (List ByteArray)) (x1 : a8) (x2 : Int) (H : Hp) (K : Bool → g8 → (List ByteArray) → Hp → Prop) : Prop :=
 ∀ (g0 : Nat), ∀ (S0 : Sl) (a1G : Frag), RowL 9 1 C1 S0 T4 a1G → Ct Tryd.prog 100 [(Value.pointer (some ⟨g0, 0, none⟩)), (t8 x1), (vi x2)] H [bx g0 106 [(vi x0.fnodes), (vi x0.fdepth), (vi x0.fe), (vB x0.fform), (vB x0.fnamed), (vs S0)], a1G] (fun v H' Fo => ∃ (r0 : Bool) (y0 : g8) (a4G : (List ByteArray)) (a2F : Sl) (a2G : Frag), v = (vB r0) ∧ Fo = [bx g0 106 [(vi y0.fnodes), (vi y0.fdepth), (vi y0.fe), (vB y0.fform), (vB y0.fnamed), (vs a2F)], a2G] ∧ RowL 9 1 C1 a2F a4G a2G ∧ K r0 y0 a4G H') noQE
def S6 (x0 : Sl) (x1 : Int) (x2 : g8) (a8e : (List ByteArray)) (H : Hp) (K : Bool → g8 → (List ByteArray) → Hp → Prop) : Prop :=
 ∀ (g2 g2b g3 : Nat), ∀ (a9B : Sl) (a9C : Frag), RowL 9 1 C1 a9B a8e a9C → Ct Tryd.prog 99 [(vs x0), (vi x1), (Value.pointer (some ⟨g2, 0, none⟩)), (Value.pointer (some ⟨g3, 0, none⟩))] H [bx g2 102 [(Value.pointer (some ⟨g2b, 0, none⟩))], bx g2b 106 [(vi x2.fnodes), (vi x2.fdepth), (vi x2.fe), (vB x2.fform), (vB x2.fnamed), (vs a9B)], a9C, bx g3 161 [(Value.func (.func 99) #[] #[(Value.pointer (some ⟨g2, 0, none⟩)), (Value.pointer (some ⟨g3, 0, none⟩))])]] (fun v H' Fo => ∃ (r0 : Bool) (y0 : g8) (a4G : (List ByteArray)) (a2F : Sl) (a2G : Frag), v = (vB r0) ∧ Fo = [bx g2 102 [(Value.pointer (some ⟨g2b, 0, none⟩))], bx g2b 106 [(vi y0.fnodes), (vi y0.fdepth), (vi y0.fe), (vB y0.fform), (vB y0.fnamed), (vs a2F)], a2G, bx g3 161 [(Value.func (.func 99) #[] #[(Value.pointer (some ⟨g2, 0, none⟩)), (Value.pointer (some ⟨g3, 0, none⟩))])]] ∧ RowL 9 1 C1 a2F a4G a2G ∧ K r0 y0 a4G H') noQE
def a2H (x0 : Sl) (H : Hp) (K : g8 → Hp → Prop) : Prop :=
 Ct Tryd.prog 60 [(vs x0)] H [] (fun v H' Fo => ∃ (r0 : g8) (gr0 : Nat), v = (Value.pointer (some ⟨gr0, 0, none⟩)) ∧ Fo = [bx gr0 106 (a3L r0)] ∧ K r0 H') noQE
def a4H (x0 : Int) (x1 : Int) (H : Hp) (K : Int → Int → Hp → Prop) : Prop :=
 Ct Tryd.prog 27 [(vi x0), (vi x1)] H [] (fun v H' Fo => ∃ (r0 : Int) (r1 : Int), v = (Value.tuple #[(vi r0), (vi r1)]) ∧ Fo = [] ∧ K r0 r1 H') noQE
def a8f (x0 : Int) (H : Hp) (K : Int → Int → Hp → Prop) : Prop :=
 Ct Tryd.prog 101 [(vi x0)] H [] (fun v H' Fo => ∃ (r0 : Int) (r1 : Int), v = (Value.tuple #[(vi r0), (vi r1)]) ∧ Fo = [] ∧ K r0 r1 H') noQE
def a8g (x0 : Int) (x1 : Int) (H : Hp) (K : Int → Int → Hp → Prop) : Prop :=
 Ct Tryd.prog 26 [(vi x0), (vi x1)] H [] (fun v H' Fo => ∃ (r0 : Int) (r1 : Int), v = (Value.tuple #[(vi r0), (vi r1)]) ∧ Fo = [] ∧ K r0 r1 H') noQE
def a1T (x0 : Int) (H : Hp) (K : Int → Hp → Prop) : Prop :=
 Ct Tryd.prog 48 [(vi x0)] H [] (fun v H' Fo => ∃ (r0 : Int), v = (Value.int .u64 r0) ∧ Fo = [] ∧ K r0 H') noQE
def a4i (x0 : Int) (x1 : Int) (H : Hp) (K : Int → Int → Hp → Prop) : Prop :=
 Ct Tryd.prog 47 [(Value.int .u64 x0), (Value.int .u64 x1)] H [] (fun v H' Fo => ∃ (r0 : Int) (r1 : Int), v = (Value.tuple #[(Value.int .u64 r0), (Value.int .u64 r1)]) ∧ Fo = [] ∧ K r0 r1 H') noQE
def a8h (x0 : Int) (x1 : Int) (H : Hp) (K : Int → Int → Hp → Prop) : Prop :=
 Ct Tryd.prog 28 [(vi x0), (vi x1)] H [] (fun v H' Fo => ∃ (r0 : Int) (r1 : Int), v = (Value.tuple #[(vi r0), (vi r1)]) ∧ Fo = [] ∧ K r0 r1 H') noQE
def a0M (x0 : Int) (x1 : Int) (H : Hp) (K : Int → Hp → Prop) : Prop :=
 Ct Tryd.prog 49 [(vi x0), (vi x1)] H [] (fun v H' Fo => ∃ (r0 : Int), v = (vi r0) ∧ Fo = [] ∧ K r0 H') noQE
def a8i (x0 : Int) (x1 : Int) (H : Hp) (K : Int → Int → Hp → Prop) : Prop :=
 Ct Tryd.prog 29 [(vi x0), (vi x1)] H [] (fun v H' Fo => ∃ (r0 : Int) (r1 : Int), v = (Value.tuple #[(vi r0), (vi r1)]) ∧ Fo = [] ∧ K r0 r1 H') noQE
def a8j (x0 : Int) (x1 : Int) (H : Hp) (K : Int → Int → Hp → Prop) : Prop :=
 Ct Tryd.prog 30 [(vi x0), (vi x1)] H [] (fun v H' Fo => ∃ (r0 : Int) (r1 : Int), v = (Value.tuple #[(vi r0), (vi r1)]) ∧ Fo = [] ∧ K r0 r1 H') noQE
def a2m (H : Hp) (K : Hp → Prop) : Prop :=
 Ct Tryd.prog 110 [] H [] (fun v H' Fo => v = (Value.agg #[(fC 123), (fC 124), (fC 125), (fC 126), (fC 127), (fC 128), (fC 129)]) ∧ Fo = [] ∧ K H') noQE
def b3r (x0 : Int) (x1 : Int) (H : Hp) (K : Bool → Hp → Prop) : Prop :=
 Ct Tryd.prog 123 [(vi x0), (vi x1)] H [] (fun v H' Fo => ∃ (r0 : Bool), v = (vB r0) ∧ Fo = [] ∧ K r0 H') noQE
def a3Z (x0 : Int) (x1 : Int) (H : Hp) (K : Bool → Hp → Prop) : Prop :=
 Ct Tryd.prog 124 [(vi x0), (vi x1)] H [] (fun v H' Fo => ∃ (r0 : Bool), v = (vB r0) ∧ Fo = [] ∧ K r0 H') noQE
def a4b (x0 : Int) (x1 : Int) (H : Hp) (K : Bool → Hp → Prop) : Prop :=
 Ct Tryd.prog 125 [(vi x0), (vi x1)] H [] (fun v H' Fo => ∃ (r0 : Bool), v = (vB r0) ∧ Fo = [] ∧ K r0 H') noQE
def a4d (x0 : Int) (x1 : Int) (H : Hp) (K : Bool → Hp → Prop) : Prop :=
 Ct Tryd.prog 126 [(vi x0), (vi x1)] H [] (fun v H' Fo => ∃ (r0 : Bool), v = (vB r0) ∧ Fo = [] ∧ K r0 H') noQE
def a4e (x0 : Int) (x1 : Int) (H : Hp) (K : Bool → Hp → Prop) : Prop :=
 Ct Tryd.prog 127 [(vi x0), (vi x1)] H [] (fun v H' Fo => ∃ (r0 : Bool), v = (vB r0) ∧ Fo = [] ∧ K r0 H') noQE
def a4f (x0 : Int) (x1 : Int) (H : Hp) (K : Bool → Hp → Prop) : Prop :=
 Ct Tryd.prog 128 [(vi x0), (vi x1)] H [] (fun v H' Fo => ∃ (r0 : Bool), v = (vB r0) ∧ Fo = [] ∧ K r0 H') noQE
def a4g (x0 : Int) (x1 : Int) (H : Hp) (K : Bool → Hp → Prop) : Prop :=
 Ct Tryd.prog 129 [(vi x0), (vi x1)] H [] (fun v H' Fo => ∃ (r0 : Bool), v = (vB r0) ∧ Fo = [] ∧ K r0 H') noQE
def a8k (x0 : Int) (x1 : Int) (x2 : Int) (H : Hp) (K : Bool → Hp → Prop) : Prop :=
 Ct Tryd.prog 75 [(vi x0), (vi x1), (vi x2)] H [] (fun v H' Fo => ∃ (r0 : Bool), v = (vB r0) ∧ Fo = [] ∧ K r0 H') noQE
def a4I (x0 : B0) (x1 : Sl) (x2 : Int) (H : Hp) (K : N3 → Int → Hp → Prop) : Prop :=
 Ct Tryd.prog 18 [(Value.agg (u4 x0).toArray), (vs x1), (vi x2)] H [] (fun v H' Fo => ∃ (r0 : N3) (r1 : Int), v = (Value.tuple #[(Value.agg (p9 r0).toArray), (vi r1)]) ∧ Fo = [] ∧ K r0 r1 H') noQE
def a0N (H : Hp) (K : Bool → Hp → Prop) : Prop :=
 Ct Tryd.prog 17 [] H [] (fun v H' Fo => ∃ (r0 : Bool), v = (vB r0) ∧ Fo = [] ∧ K r0 H') noQE
def U9 (x0 : ByteArray) (H : Hp) (K : d8 → Hp → Prop) : Prop :=
 Ct Tryd.prog 22 [(Value.string x0)] H [] (fun v H' Fo => ∃ (r0 : d8), v = (Value.agg (b6 r0).toArray) ∧ Fo = [] ∧ K r0 H') noQE
def S9 (x0 : Int) (H : Hp) (K : d8 → Hp → Prop) : Prop :=
 Ct Tryd.prog 23 [(vi x0)] H [] (fun v H' Fo => ∃ (r0 : d8), v = (Value.agg (b6 r0).toArray) ∧ Fo = [] ∧ K r0 H') noQE
def a1u (x0 : Int) (x1 : d8) (x2 : d8) (H : Hp) (K : o9 → Hp → Prop) : Prop :=
 Ct Tryd.prog 21 [(vi x0), (Value.agg (b6 x1).toArray), (Value.agg (b6 x2).toArray)] H [] (fun v H' Fo => ∃ (r0 : o9), v = (Value.agg (i5 r0).toArray) ∧ Fo = [] ∧ K r0 H') noQE
def a1v (x0 : Int) (x1 : d8) (x2 : d8) (H : Hp) (K : d8 → Hp → Prop) : Prop :=
 Ct Tryd.prog 25 [(vi x0), (Value.agg (b6 x1).toArray), (Value.agg (b6 x2).toArray)] H [] (fun v H' Fo => ∃ (r0 : d8), v = (Value.agg (b6 r0).toArray) ∧ Fo = [] ∧ K r0 H') noQE
def a1h (x0 : ByteArray) (x1 : d8) (H : Hp) (K : o0 → Hp → Prop) : Prop :=
 Ct Tryd.prog 24 [(Value.string x0), (Value.agg (b6 x1).toArray)] H [] (fun v H' Fo => ∃ (r0 : o0), v = (Value.agg (d9 r0).toArray) ∧ Fo = [] ∧ K r0 H') noQE
def Q8 (x0 : Int) (x1 : Int) (H : Hp) (K : Bool → Hp → Prop) : Prop :=
 Ct Tryd.prog 5 [(vi x0), (vi x1)] H [] (fun v H' Fo => ∃ (r0 : Bool), v = (vB r0) ∧ Fo = [] ∧ K r0 H') noQE
def a5A (x0 : j7) (H : Hp) (K : a8 → Hp → Prop) : Prop :=
 Ct Tryd.prog 89 [(Value.agg (m4 x0).toArray)] H [] (fun v H' Fo => ∃ (r0 : a8), v = (t8 r0) ∧ Fo = [] ∧ K r0 H') noQE
def D5 (x0 : Sl) (H : Hp) (K : Sl → Hp → Prop) : Prop :=
 Ct Tryd.prog 88 [(vs x0), (fC 89)] H [] (fun v H' Fo => ∃ (r0 : Sl), v = (vs r0) ∧ Fo = [] ∧ K r0 H') noQE
def a5B (x0 : o0) (H : Hp) (K : a8 → Hp → Prop) : Prop :=
 Ct Tryd.prog 91 [(Value.agg (d9 x0).toArray)] H [] (fun v H' Fo => ∃ (r0 : a8), v = (t8 r0) ∧ Fo = [] ∧ K r0 H') noQE
def r6 (x0 : Sl) (H : Hp) (K : Sl → Hp → Prop) : Prop :=
 Ct Tryd.prog 90 [(vs x0), (fC 91)] H [] (fun v H' Fo => ∃ (r0 : Sl), v = (vs r0) ∧ Fo = [] ∧ K r0 H') noQE
def M7 (x1 : Int) (H : Hp) (K : (List a8) → Hp → Prop) : Prop :=
 Ct Tryd.prog 117 [(nS), (vi x1)] H [] (fun v H' Fo => ∃ (r0 : (List a8)) (sr0 : Sl) (Fr0 : Frag), v = (vs sr0) ∧ Fo = [Fr0] ∧ RowL 152 1 o3 sr0 r0 Fr0 ∧ K r0 H') noQE
def y9 (x0 : Sl) (H : Hp) (K : Sl → Hp → Prop) : Prop :=
 Ct Tryd.prog 87 [(vs x0)] H [] (fun v H' Fo => ∃ (r0 : Sl), v = (vs r0) ∧ Fo = [] ∧ K r0 H') noQE
def a4j (x0 : B0) (H : Hp) (K : g8 → Hp → Prop) : Prop :=
 Ct Tryd.prog 52 [(Value.agg (u4 x0).toArray)] H [] (fun v H' Fo => ∃ (r0 : g8) (gr0 : Nat), v = (Value.pointer (some ⟨gr0, 0, none⟩)) ∧ Fo = [bx gr0 106 (a3L r0)] ∧ K r0 H') noQE
def a3o (x0 : B0) (H : Hp) (K : Int → Hp → Prop) : Prop :=
 Ct Tryd.prog 53 [(Value.agg (u4 x0).toArray)] H [] (fun v H' Fo => ∃ (r0 : Int), v = (vi r0) ∧ Fo = [] ∧ K r0 H') noQE
def a4q (x0 : Sl) (H : Hp) (K : (Option Nat) → ByteArray → Int → Hp → Prop) : Prop :=
 Ct Tryd.prog 54 [(vs x0)] H [] (fun v H' Fo => ∃ (r0 : (Option Nat)) (r1 : ByteArray) (r2 : Int), v = (Value.tuple #[(Value.map r0), (Value.string r1), (vi r2)]) ∧ Fo = [] ∧ K r0 r1 r2 H') noQE
def O9 (x0 : f8) (K7 : (List b7)) (x1 : d8) (H : Hp) (K : f8 → (List b7) → Hp → Prop) : Prop :=
 ∀ (g0 : Nat), ∀ (N8 : Sl) (S1 : Frag), RowL 117 2 o8 N8 K7 S1 → Ct Tryd.prog 94 [(Value.pointer (some ⟨g0, 0, none⟩)), (Value.agg (b6 x1).toArray)] H [bx g0 114 [(vs N8)], S1] (fun v H' Fo => ∃ (y0 : f8) (a1i : (List b7)) (V0 : Sl) (V1 : Frag), v = (Value.tuple #[]) ∧ Fo = [bx g0 114 [(vs V0)], V1] ∧ RowL 117 2 o8 V0 a1i V1 ∧ K y0 a1i H') noQE
def T7 (x0 : f8) (K7 : (List b7)) (x1 : o9) (H : Hp) (K : f8 → (List b7) → Hp → Prop) : Prop :=
 ∀ (g0 : Nat), ∀ (N8 : Sl) (S1 : Frag), RowL 117 2 o8 N8 K7 S1 → Ct Tryd.prog 93 [(Value.pointer (some ⟨g0, 0, none⟩)), (Value.agg (i5 x1).toArray)] H [bx g0 114 [(vs N8)], S1] (fun v H' Fo => ∃ (y0 : f8) (a1i : (List b7)) (V0 : Sl) (V1 : Frag), v = (Value.tuple #[]) ∧ Fo = [bx g0 114 [(vs V0)], V1] ∧ RowL 117 2 o8 V0 a1i V1 ∧ K y0 a1i H') noQE
def N6 (x0 : f8) (K7 : (List b7)) (x1 : Sl) (H : Hp) (K : f8 → (List b7) → Hp → Prop) : Prop :=
 ∀ (g0 : Nat), ∀ (N8 : Sl) (S1 : Frag), RowL 117 2 o8 N8 K7 S1 → Ct Tryd.prog 55 [(Value.pointer (some ⟨g0, 0, none⟩)), (vs x1)] H [bx g0 114 [(vs N8)], S1] (fun v H' Fo => ∃ (y0 : f8) (a1i : (List b7)) (V0 : Sl) (V1 : Frag), v = (Value.tuple #[]) ∧ Fo = [bx g0 114 [(vs V0)], V1] ∧ RowL 117 2 o8 V0 a1i V1 ∧ K y0 a1i H') noQE
def a5J (x0 : B0) (H : Hp) (K : ByteArray → Int → Hp → Prop) : Prop :=
 Ct Tryd.prog 34 [(Value.agg (u4 x0).toArray)] H [] (fun v H' Fo => ∃ (r0 : ByteArray) (r1 : Int), v = (Value.tuple #[(Value.string r0), (vi r1)]) ∧ Fo = [] ∧ K r0 r1 H') noQE
def a6F (x0 : j7) (H : Hp) (K : Int → Hp → Prop) : Prop :=
 Ct Tryd.prog 92 [(Value.agg (m4 x0).toArray)] H [] (fun v H' Fo => ∃ (r0 : Int), v = (vi r0) ∧ Fo = [] ∧ K r0 H') noQE
def a4Z (x0 : d8) (H : Hp) (K : Int → Bool → Hp → Prop) : Prop :=
 Ct Tryd.prog 146 [(Value.agg (b6 x0).toArray)] H [] (fun v H' Fo => ∃ (r0 : Int) (r1 : Bool), v = (Value.tuple #[(vi r0), (vB r1)]) ∧ Fo = [] ∧ K r0 r1 H') noQE
def a1w (x0 : D7) (H : Hp) (K : Bool → Hp → Prop) : Prop :=
 Ct Tryd.prog 169 [(Value.agg (b6 x0.l0).toArray)] H [] (fun v H' Fo => ∃ (r0 : Bool), v = (vB r0) ∧ Fo = [] ∧ K r0 H') noQE
def a5C (x0 : d8) (H : Hp) (K : a8 → Hp → Prop) : Prop :=
 Ct Tryd.prog 172 [(Value.agg (b6 x0).toArray)] H [] (fun v H' Fo => ∃ (r0 : a8), v = (t8 r0) ∧ Fo = [] ∧ K r0 H') noQE
def r7 (x0 : Sl) (H : Hp) (K : Sl → Hp → Prop) : Prop :=
 Ct Tryd.prog 171 [(vs x0), (fC 172)] H [] (fun v H' Fo => ∃ (r0 : Sl), v = (vs r0) ∧ Fo = [] ∧ K r0 H') noQE
def a3t (x0 : D7) (H : Hp) (K : Sl → Hp → Prop) : Prop :=
 Ct Tryd.prog 170 [(Value.agg (b6 x0.l0).toArray)] H [] (fun v H' Fo => ∃ (r0 : Sl), v = (vs r0) ∧ Fo = [] ∧ K r0 H') noQE
def a1x (x0 : K2) (H : Hp) (K : Bool → Hp → Prop) : Prop :=
 Ct Tryd.prog 173 [(Value.agg (i5 x0.j9).toArray)] H [] (fun v H' Fo => ∃ (r0 : Bool), v = (vB r0) ∧ Fo = [] ∧ K r0 H') noQE
def a5D (x0 : o9) (H : Hp) (K : a8 → Hp → Prop) : Prop :=
 Ct Tryd.prog 176 [(Value.agg (i5 x0).toArray)] H [] (fun v H' Fo => ∃ (r0 : a8), v = (t8 r0) ∧ Fo = [] ∧ K r0 H') noQE
def z8 (x0 : Sl) (H : Hp) (K : Sl → Hp → Prop) : Prop :=
 Ct Tryd.prog 175 [(vs x0), (fC 176)] H [] (fun v H' Fo => ∃ (r0 : Sl), v = (vs r0) ∧ Fo = [] ∧ K r0 H') noQE
def a3u (x0 : K2) (H : Hp) (K : Sl → Hp → Prop) : Prop :=
 Ct Tryd.prog 174 [(Value.agg (i5 x0.j9).toArray)] H [] (fun v H' Fo => ∃ (r0 : Sl), v = (vs r0) ∧ Fo = [] ∧ K r0 H') noQE
def a4h (x0 : M8) (H : Hp) (K : Bool → Hp → Prop) : Prop :=
 Ct Tryd.prog 177 [(Value.agg (m4 x0.M9).toArray)] H [] (fun v H' Fo => ∃ (r0 : Bool), v = (vB r0) ∧ Fo = [] ∧ K r0 H') noQE
def a3v (x0 : M8) (H : Hp) (K : Sl → Hp → Prop) : Prop :=
 Ct Tryd.prog 178 [(Value.agg (m4 x0.M9).toArray)] H [] (fun v H' Fo => ∃ (r0 : Sl), v = (vs r0) ∧ Fo = [] ∧ K r0 H') noQE
def a1y (x0 : K3) (H : Hp) (K : Bool → Hp → Prop) : Prop :=
 Ct Tryd.prog 179 [(Value.agg (d9 x0.d7).toArray)] H [] (fun v H' Fo => ∃ (r0 : Bool), v = (vB r0) ∧ Fo = [] ∧ K r0 H') noQE
def a3w (x0 : K3) (H : Hp) (K : Sl → Hp → Prop) : Prop :=
 Ct Tryd.prog 180 [(Value.agg (d9 x0.d7).toArray)] H [] (fun v H' Fo => ∃ (r0 : Sl), v = (vs r0) ∧ Fo = [] ∧ K r0 H') noQE
def a2I (x : a8) (H : Hp) (K : Bool → Hp → Prop) : Prop := match x with
 | .nil => False
 | .C2 y => a1w y H K
 | .G3 y => a1x y H K
 | .E8 y => a4h y H K
 | .C8 y => a1y y H K
def a2o (x : a8) (H : Hp) (K : Sl → Hp → Prop) : Prop := match x with
 | .nil => False
 | .C2 y => a3t y H K
 | .G3 y => a3u y H K
 | .E8 y => a3v y H K
 | .C8 y => a3w y H K
theorem b0z {E : Pan} {w0 w : World} {ps : Nat → Prop} {H0 H : Hp} {Fr : List Frag} {K : RT} {Kc : Bool → Hp → Prop} {x : a8} (I : Inv w0 ps H0 H Fr w) (h : a2I x H Kc) (hq : ∀ (r0 : Bool) (H' : Hp) (w' : World), Inv w0 ps H0 H' Fr w' → Hle H H' → (∀ i, i < w.heap.size → ¬ inF [] i → w'.heap[i]? = w.heap[i]?) → Kc r0 H' → K (vB r0) w') : oP E (xInvoke (t8 x) "gnomon/tree.form" []) w K := by
 cases x with
 | nil => exact h.elim
 | C2 y => exact a2u (f := 169) (args := [(Value.agg (b6 y.l0).toArray)].toArray) (by kernel_rfl) (m5 (Fi := []) I h (fun v H' Fo w' I' l hk hq' => by obtain ⟨r0, rfl, rfl, hK⟩ := hq'; exact hq r0 H' w' I' l hk hK) (fun _ _ _ _ _ q => q.elim))
 | G3 y => exact a2u (f := 173) (args := [(Value.agg (i5 y.j9).toArray)].toArray) (by kernel_rfl) (m5 (Fi := []) I h (fun v H' Fo w' I' l hk hq' => by obtain ⟨r0, rfl, rfl, hK⟩ := hq'; exact hq r0 H' w' I' l hk hK) (fun _ _ _ _ _ q => q.elim))
 | E8 y => exact a2u (f := 177) (args := [(Value.agg (m4 y.M9).toArray)].toArray) (by kernel_rfl) (m5 (Fi := []) I h (fun v H' Fo w' I' l hk hq' => by obtain ⟨r0, rfl, rfl, hK⟩ := hq'; exact hq r0 H' w' I' l hk hK) (fun _ _ _ _ _ q => q.elim))
 | C8 y => exact a2u (f := 179) (args := [(Value.agg (d9 y.d7).toArray)].toArray) (by kernel_rfl) (m5 (Fi := []) I h (fun v H' Fo w' I' l hk hq' => by obtain ⟨r0, rfl, rfl, hK⟩ := hq'; exact hq r0 H' w' I' l hk hK) (fun _ _ _ _ _ q => q.elim))
theorem b0a {E : Pan} {w0 w : World} {ps : Nat → Prop} {H0 H : Hp} {Fr : List Frag} {K : RT} {Kc : Sl → Hp → Prop} {x : a8} (I : Inv w0 ps H0 H Fr w) (h : a2o x H Kc) (hq : ∀ (r0 : Sl) (H' : Hp) (w' : World), Inv w0 ps H0 H' Fr w' → Hle H H' → (∀ i, i < w.heap.size → ¬ inF [] i → w'.heap[i]? = w.heap[i]?) → Kc r0 H' → K (vs r0) w') : oP E (xInvoke (t8 x) "gnomon/tree.parts" []) w K := by
 cases x with
 | nil => exact h.elim
 | C2 y => exact a2u (f := 170) (args := [(Value.agg (b6 y.l0).toArray)].toArray) (by kernel_rfl) (m5 (Fi := []) I h (fun v H' Fo w' I' l hk hq' => by obtain ⟨r0, rfl, rfl, hK⟩ := hq'; exact hq r0 H' w' I' l hk hK) (fun _ _ _ _ _ q => q.elim))
 | G3 y => exact a2u (f := 174) (args := [(Value.agg (i5 y.j9).toArray)].toArray) (by kernel_rfl) (m5 (Fi := []) I h (fun v H' Fo w' I' l hk hq' => by obtain ⟨r0, rfl, rfl, hK⟩ := hq'; exact hq r0 H' w' I' l hk hK) (fun _ _ _ _ _ q => q.elim))
 | E8 y => exact a2u (f := 178) (args := [(Value.agg (m4 y.M9).toArray)].toArray) (by kernel_rfl) (m5 (Fi := []) I h (fun v H' Fo w' I' l hk hq' => by obtain ⟨r0, rfl, rfl, hK⟩ := hq'; exact hq r0 H' w' I' l hk hK) (fun _ _ _ _ _ q => q.elim))
 | C8 y => exact a2u (f := 180) (args := [(Value.agg (d9 y.d7).toArray)].toArray) (by kernel_rfl) (m5 (Fi := []) I h (fun v H' Fo w' I' l hk hq' => by obtain ⟨r0, rfl, rfl, hK⟩ := hq'; exact hq r0 H' w' I' l hk hK) (fun _ _ _ _ _ q => q.elim))
end Go.Proofs.YtnhkdkcgdcgmdaaDoor
