/- Contracts of the program's functions; printed by lift.py off the code. -/
import Derived.Test.YtnhkdkcgdcgmdaaDoorzZU1
import Derived.Test.YtnhkdkcgdcgmdaaDoorzZG1a
namespace Go.Proofs.YtnhkdkcgdcgmdaaDoor
open Go.RowKit
set_option maxRecDepth 100000
set_option maxHeartbeats 2000000
def a0M (x0 : a8) (H : Hp) (K : ByteArray → Bool → Hp → Prop) : Prop :=
 Ct Tryd.prog 118 [(u7 x0)] H [] (fun v H' Fo => ∃ (r0 : ByteArray) (r1 : Bool), v = (Value.tuple #[(Value.string r0), (vB r1)]) ∧ Fo = [] ∧ K r0 r1 H') noQE
def F7 (x0 : Int) (x1 : Int) (x2 : Int) (H : Hp) (K : Bool → Hp → Prop) : Prop :=
 ∀ (g2 : Nat), Ct Tryd.prog 151 [(Value.int .i32 x0), (Value.int .i32 x1), (Value.pointer (some ⟨g2, 0, none⟩))] H [bx g2 21 [(Value.int .i32 x2)]] (fun v H' Fo => ∃ (r0 : Bool), v = (vB r0) ∧ Fo = [bx g2 21 [(Value.int .i32 x2)]] ∧ K r0 H') noQE
def a1I (x0 : Int) (H : Hp) (K : Int → Hp → Prop) : Prop :=
 Ct Tryd.prog 141 [(Value.int .i32 x0)] H [] (fun v H' Fo => ∃ (r0 : Int), v = (vi r0) ∧ Fo = [] ∧ K r0 H') noQE
def a3G (x0 : Int) (H : Hp) (K : Bool → Hp → Prop) : Prop :=
 Ct Tryd.prog 140 [(Value.int .i32 x0)] H [] (fun v H' Fo => ∃ (r0 : Bool), v = (vB r0) ∧ Fo = [] ∧ K r0 H') noQE
def a3y (x0 : ByteArray) (H : Hp) (K : Bool → Hp → Prop) : Prop :=
 Ct Tryd.prog 137 [(Value.string x0)] H [] (fun v H' Fo => ∃ (r0 : Bool), v = (vB r0) ∧ Fo = [] ∧ K r0 H') noQE
def U7 (x0 : ByteArray) (H : Hp) (K : Int → Hp → Prop) : Prop :=
 Ct Tryd.prog 150 [(Value.string x0)] H [] (fun v H' Fo => ∃ (r0 : Int), v = (vi r0) ∧ Fo = [] ∧ K r0 H') noQE
def a2p (x0 : ByteArray) (H : Hp) (K : Bool → Hp → Prop) : Prop :=
 Ct Tryd.prog 138 [(Value.string x0)] H [] (fun v H' Fo => ∃ (r0 : Bool), v = (vB r0) ∧ Fo = [] ∧ K r0 H') noQE
def a1e (x0 : ByteArray) (H : Hp) (K : Bool → Hp → Prop) : Prop :=
 Ct Tryd.prog 139 [(Value.string x0)] H [] (fun v H' Fo => ∃ (r0 : Bool), v = (vB r0) ∧ Fo = [] ∧ K r0 H') noQE
def a2q (x0 : ByteArray) (H : Hp) (K : Bool → Hp → Prop) : Prop :=
 Ct Tryd.prog 119 [(Value.string x0)] H [] (fun v H' Fo => ∃ (r0 : Bool), v = (vB r0) ∧ Fo = [] ∧ K r0 H') noQE
def a0e (x0 : (List ByteArray)) (x1 : ByteArray) (H : Hp) (K : Int → Hp → Prop) : Prop :=
 ∀ (sx0 : Sl) (Fx0 : Frag), RowL 9 1 C8 sx0 x0 Fx0 → Ct Tryd.prog 142 [(vs sx0), (Value.string x1)] H [Fx0] (fun v H' Fo => ∃ (r0 : Int), v = (vi r0) ∧ Fo = [Fx0] ∧ K r0 H') noQE
def K4 (x0 : (List ByteArray)) (x1 : ByteArray) (H : Hp) (K : Bool → Hp → Prop) : Prop :=
 ∀ (sx0 : Sl) (Fx0 : Frag), RowL 9 1 C8 sx0 x0 Fx0 → Ct Tryd.prog 120 [(vs sx0), (Value.string x1)] H [Fx0] (fun v H' Fo => ∃ (r0 : Bool), v = (vB r0) ∧ Fo = [Fx0] ∧ K r0 H') noQE
def a0U (x0 : i7) (U8 : (List ByteArray)) (x1 : a8) (x2 : Int) (H : Hp) (K : Bool → i7 → (List ByteArray) → Hp → Prop) : Prop :=
 ∀ (g0 : Nat), ∀ (T3 : Sl) (a2d : Frag), RowL 9 1 C8 T3 U8 a2d → Ct Tryd.prog 100 [(Value.pointer (some ⟨g0, 0, none⟩)), (u7 x1), (vi x2)] H [bx g0 106 [(vi x0.fnodes), (vi x0.fdepth), (vi x0.fe), (vB x0.fform), (vB x0.fnamed), (vs T3)], a2d] (fun v H' Fo => ∃ (r0 : Bool) (y0 : i7) (a5c : (List ByteArray)) (a2Z : Sl) (a3b : Frag), v = (vB r0) ∧ Fo = [bx g0 106 [(vi y0.fnodes), (vi y0.fdepth), (vi y0.fe), (vB y0.fform), (vB y0.fnamed), (vs a2Z)], a3b] ∧ RowL 9 1 C8 a2Z a5c a3b ∧ K r0 y0 a5c H') noQE
def T9 (x0 : Sl) (x1 : Int) (x2 : i7) (a8A : (List ByteArray)) (H : Hp) (K : Bool → i7 → (List ByteArray) → Hp → Prop) : Prop :=
 ∀ (g2 g2b g3 : Nat), ∀ (a9Y : Sl) (a9Z : Frag), RowL 9 1 C8 a9Y a8A a9Z → Ct Tryd.prog 99 [(vs x0), (vi x1), (Value.pointer (some ⟨g2, 0, none⟩)), (Value.pointer (some ⟨g3, 0, none⟩))] H [bx g2 102 [(Value.pointer (some ⟨g2b, 0, none⟩))], bx g2b 106 [(vi x2.fnodes), (vi x2.fdepth), (vi x2.fe), (vB x2.fform), (vB x2.fnamed), (vs a9Y)], a9Z, bx g3 161 [(Value.func (.func 99) #[] #[(Value.pointer (some ⟨g2, 0, none⟩)), (Value.pointer (some ⟨g3, 0, none⟩))])]] (fun v H' Fo => ∃ (r0 : Bool) (y0 : i7) (a5c : (List ByteArray)) (a2Z : Sl) (a3b : Frag), v = (vB r0) ∧ Fo = [bx g2 102 [(Value.pointer (some ⟨g2b, 0, none⟩))], bx g2b 106 [(vi y0.fnodes), (vi y0.fdepth), (vi y0.fe), (vB y0.fform), (vB y0.fnamed), (vs a2Z)], a3b, bx g3 161 [(Value.func (.func 99) #[] #[(Value.pointer (some ⟨g2, 0, none⟩)), (Value.pointer (some ⟨g3, 0, none⟩))])]] ∧ RowL 9 1 C8 a2Z a5c a3b ∧ K r0 y0 a5c H') noQE
def a3d (x0 : Sl) (H : Hp) (K : i7 → Hp → Prop) : Prop :=
 Ct Tryd.prog 60 [(vs x0)] H [] (fun v H' Fo => ∃ (r0 : i7) (gr0 : Nat), v = (Value.pointer (some ⟨gr0, 0, none⟩)) ∧ Fo = [bx gr0 106 (a4j r0)] ∧ K r0 H') noQE
def a5d (x0 : Int) (x1 : Int) (H : Hp) (K : Int → Int → Hp → Prop) : Prop :=
 Ct Tryd.prog 27 [(vi x0), (vi x1)] H [] (fun v H' Fo => ∃ (r0 : Int) (r1 : Int), v = (Value.tuple #[(vi r0), (vi r1)]) ∧ Fo = [] ∧ K r0 r1 H') noQE
def a8B (x0 : Int) (H : Hp) (K : Int → Int → Hp → Prop) : Prop :=
 Ct Tryd.prog 101 [(vi x0)] H [] (fun v H' Fo => ∃ (r0 : Int) (r1 : Int), v = (Value.tuple #[(vi r0), (vi r1)]) ∧ Fo = [] ∧ K r0 r1 H') noQE
def a8C (x0 : Int) (x1 : Int) (H : Hp) (K : Int → Int → Hp → Prop) : Prop :=
 Ct Tryd.prog 26 [(vi x0), (vi x1)] H [] (fun v H' Fo => ∃ (r0 : Int) (r1 : Int), v = (Value.tuple #[(vi r0), (vi r1)]) ∧ Fo = [] ∧ K r0 r1 H') noQE
def a2r (x0 : Int) (H : Hp) (K : Int → Hp → Prop) : Prop :=
 Ct Tryd.prog 48 [(vi x0)] H [] (fun v H' Fo => ∃ (r0 : Int), v = (Value.int .u64 r0) ∧ Fo = [] ∧ K r0 H') noQE
def a4G (x0 : Int) (x1 : Int) (H : Hp) (K : Int → Int → Hp → Prop) : Prop :=
 Ct Tryd.prog 47 [(Value.int .u64 x0), (Value.int .u64 x1)] H [] (fun v H' Fo => ∃ (r0 : Int) (r1 : Int), v = (Value.tuple #[(Value.int .u64 r0), (Value.int .u64 r1)]) ∧ Fo = [] ∧ K r0 r1 H') noQE
def a8D (x0 : Int) (x1 : Int) (H : Hp) (K : Int → Int → Hp → Prop) : Prop :=
 Ct Tryd.prog 28 [(vi x0), (vi x1)] H [] (fun v H' Fo => ∃ (r0 : Int) (r1 : Int), v = (Value.tuple #[(vi r0), (vi r1)]) ∧ Fo = [] ∧ K r0 r1 H') noQE
def a1o (x0 : Int) (x1 : Int) (H : Hp) (K : Int → Hp → Prop) : Prop :=
 Ct Tryd.prog 49 [(vi x0), (vi x1)] H [] (fun v H' Fo => ∃ (r0 : Int), v = (vi r0) ∧ Fo = [] ∧ K r0 H') noQE
def a8E (x0 : Int) (x1 : Int) (H : Hp) (K : Int → Int → Hp → Prop) : Prop :=
 Ct Tryd.prog 29 [(vi x0), (vi x1)] H [] (fun v H' Fo => ∃ (r0 : Int) (r1 : Int), v = (Value.tuple #[(vi r0), (vi r1)]) ∧ Fo = [] ∧ K r0 r1 H') noQE
def a8F (x0 : Int) (x1 : Int) (H : Hp) (K : Int → Int → Hp → Prop) : Prop :=
 Ct Tryd.prog 30 [(vi x0), (vi x1)] H [] (fun v H' Fo => ∃ (r0 : Int) (r1 : Int), v = (Value.tuple #[(vi r0), (vi r1)]) ∧ Fo = [] ∧ K r0 r1 H') noQE
def a2J (H : Hp) (K : Hp → Prop) : Prop :=
 Ct Tryd.prog 110 [] H [] (fun v H' Fo => v = (Value.agg #[(fC 123), (fC 124), (fC 125), (fC 126), (fC 127), (fC 128), (fC 129)]) ∧ Fo = [] ∧ K H') noQE
def b3V (x0 : Int) (x1 : Int) (H : Hp) (K : Bool → Hp → Prop) : Prop :=
 Ct Tryd.prog 123 [(vi x0), (vi x1)] H [] (fun v H' Fo => ∃ (r0 : Bool), v = (vB r0) ∧ Fo = [] ∧ K r0 H') noQE
def a4x (x0 : Int) (x1 : Int) (H : Hp) (K : Bool → Hp → Prop) : Prop :=
 Ct Tryd.prog 124 [(vi x0), (vi x1)] H [] (fun v H' Fo => ∃ (r0 : Bool), v = (vB r0) ∧ Fo = [] ∧ K r0 H') noQE
def a4y (x0 : Int) (x1 : Int) (H : Hp) (K : Bool → Hp → Prop) : Prop :=
 Ct Tryd.prog 125 [(vi x0), (vi x1)] H [] (fun v H' Fo => ∃ (r0 : Bool), v = (vB r0) ∧ Fo = [] ∧ K r0 H') noQE
def a4z (x0 : Int) (x1 : Int) (H : Hp) (K : Bool → Hp → Prop) : Prop :=
 Ct Tryd.prog 126 [(vi x0), (vi x1)] H [] (fun v H' Fo => ∃ (r0 : Bool), v = (vB r0) ∧ Fo = [] ∧ K r0 H') noQE
def a4A (x0 : Int) (x1 : Int) (H : Hp) (K : Bool → Hp → Prop) : Prop :=
 Ct Tryd.prog 127 [(vi x0), (vi x1)] H [] (fun v H' Fo => ∃ (r0 : Bool), v = (vB r0) ∧ Fo = [] ∧ K r0 H') noQE
def a4B (x0 : Int) (x1 : Int) (H : Hp) (K : Bool → Hp → Prop) : Prop :=
 Ct Tryd.prog 128 [(vi x0), (vi x1)] H [] (fun v H' Fo => ∃ (r0 : Bool), v = (vB r0) ∧ Fo = [] ∧ K r0 H') noQE
def a4C (x0 : Int) (x1 : Int) (H : Hp) (K : Bool → Hp → Prop) : Prop :=
 Ct Tryd.prog 129 [(vi x0), (vi x1)] H [] (fun v H' Fo => ∃ (r0 : Bool), v = (vB r0) ∧ Fo = [] ∧ K r0 H') noQE
def a8G (x0 : Int) (x1 : Int) (x2 : Int) (H : Hp) (K : Bool → Hp → Prop) : Prop :=
 Ct Tryd.prog 75 [(vi x0), (vi x1), (vi x2)] H [] (fun v H' Fo => ∃ (r0 : Bool), v = (vB r0) ∧ Fo = [] ∧ K r0 H') noQE
def a8H (x0 : C4) (x1 : Sl) (x2 : Int) (H : Hp) (K : R2 → Int → Hp → Prop) : Prop :=
 Ct Tryd.prog 18 [(Value.agg (q9 x0).toArray), (vs x1), (vi x2)] H [] (fun v H' Fo => ∃ (r0 : R2) (r1 : Int), v = (Value.tuple #[(Value.agg (q7 r0).toArray), (vi r1)]) ∧ Fo = [] ∧ K r0 r1 H') noQE
def a3L (H : Hp) (K : Bool → Hp → Prop) : Prop :=
 Ct Tryd.prog 17 [] H [] (fun v H' Fo => ∃ (r0 : Bool), v = (vB r0) ∧ Fo = [] ∧ K r0 H') noQE
def a3O (x0 : ByteArray) (H : Hp) (K : i4 → Hp → Prop) : Prop :=
 Ct Tryd.prog 22 [(Value.string x0)] H [] (fun v H' Fo => ∃ (r0 : i4), v = (Value.agg (d5 r0).toArray) ∧ Fo = [] ∧ K r0 H') noQE
def a3z (x0 : Int) (H : Hp) (K : i4 → Hp → Prop) : Prop :=
 Ct Tryd.prog 23 [(vi x0)] H [] (fun v H' Fo => ∃ (r0 : i4), v = (Value.agg (d5 r0).toArray) ∧ Fo = [] ∧ K r0 H') noQE
def a4D (x0 : Int) (x1 : i4) (x2 : i4) (H : Hp) (K : o8 → Hp → Prop) : Prop :=
 Ct Tryd.prog 21 [(vi x0), (Value.agg (d5 x1).toArray), (Value.agg (d5 x2).toArray)] H [] (fun v H' Fo => ∃ (r0 : o8), v = (Value.agg (g8 r0).toArray) ∧ Fo = [] ∧ K r0 H') noQE
def a4E (x0 : Int) (x1 : i4) (x2 : i4) (H : Hp) (K : i4 → Hp → Prop) : Prop :=
 Ct Tryd.prog 25 [(vi x0), (Value.agg (d5 x1).toArray), (Value.agg (d5 x2).toArray)] H [] (fun v H' Fo => ∃ (r0 : i4), v = (Value.agg (d5 r0).toArray) ∧ Fo = [] ∧ K r0 H') noQE
def a3P (x0 : ByteArray) (x1 : i4) (H : Hp) (K : p6 → Hp → Prop) : Prop :=
 Ct Tryd.prog 24 [(Value.string x0), (Value.agg (d5 x1).toArray)] H [] (fun v H' Fo => ∃ (r0 : p6), v = (Value.agg (i5 r0).toArray) ∧ Fo = [] ∧ K r0 H') noQE
def a0f (x0 : Int) (x1 : Int) (x2 : Bool) (x3 : Bool) (H : Hp) (K : Bool → Hp → Prop) : Prop :=
 Ct Tryd.prog 8 [(vi x0), (vi x1), (vB x2), (vB x3)] H [] (fun v H' Fo => ∃ (r0 : Bool), v = (vB r0) ∧ Fo = [] ∧ K r0 H') noQE
def a5X (x0 : m3) (H : Hp) (K : a8 → Hp → Prop) : Prop :=
 Ct Tryd.prog 89 [(Value.agg (m7 x0).toArray)] H [] (fun v H' Fo => ∃ (r0 : a8), v = (u7 r0) ∧ Fo = [] ∧ K r0 H') noQE
def E3 (x0 : Sl) (H : Hp) (K : Sl → Hp → Prop) : Prop :=
 Ct Tryd.prog 88 [(vs x0), (fC 89)] H [] (fun v H' Fo => ∃ (r0 : Sl), v = (vs r0) ∧ Fo = [] ∧ K r0 H') noQE
def a5Y (x0 : p6) (H : Hp) (K : a8 → Hp → Prop) : Prop :=
 Ct Tryd.prog 91 [(Value.agg (i5 x0).toArray)] H [] (fun v H' Fo => ∃ (r0 : a8), v = (u7 r0) ∧ Fo = [] ∧ K r0 H') noQE
def t1 (x0 : Sl) (H : Hp) (K : Sl → Hp → Prop) : Prop :=
 Ct Tryd.prog 90 [(vs x0), (fC 91)] H [] (fun v H' Fo => ∃ (r0 : Sl), v = (vs r0) ∧ Fo = [] ∧ K r0 H') noQE
def N6 (x1 : Int) (H : Hp) (K : (List a8) → Hp → Prop) : Prop :=
 Ct Tryd.prog 117 [(nS), (vi x1)] H [] (fun v H' Fo => ∃ (r0 : (List a8)) (sr0 : Sl) (Fr0 : Frag), v = (vs sr0) ∧ Fo = [Fr0] ∧ RowL 152 1 p7 sr0 r0 Fr0 ∧ K r0 H') noQE
def A6 (x0 : Sl) (H : Hp) (K : Sl → Hp → Prop) : Prop :=
 Ct Tryd.prog 87 [(vs x0)] H [] (fun v H' Fo => ∃ (r0 : Sl), v = (vs r0) ∧ Fo = [] ∧ K r0 H') noQE
def a4H (x0 : C4) (H : Hp) (K : i7 → Hp → Prop) : Prop :=
 Ct Tryd.prog 52 [(Value.agg (q9 x0).toArray)] H [] (fun v H' Fo => ∃ (r0 : i7) (gr0 : Nat), v = (Value.pointer (some ⟨gr0, 0, none⟩)) ∧ Fo = [bx gr0 106 (a4j r0)] ∧ K r0 H') noQE
def a3H (x0 : C4) (H : Hp) (K : Int → Hp → Prop) : Prop :=
 Ct Tryd.prog 53 [(Value.agg (q9 x0).toArray)] H [] (fun v H' Fo => ∃ (r0 : Int), v = (vi r0) ∧ Fo = [] ∧ K r0 H') noQE
def a4N (x0 : Sl) (H : Hp) (K : (Option Nat) → ByteArray → Int → Hp → Prop) : Prop :=
 Ct Tryd.prog 54 [(vs x0)] H [] (fun v H' Fo => ∃ (r0 : (Option Nat)) (r1 : ByteArray) (r2 : Int), v = (Value.tuple #[(Value.map r0), (Value.string r1), (vi r2)]) ∧ Fo = [] ∧ K r0 r1 r2 H') noQE
def P9 (x0 : i6) (L9 : (List d7)) (x1 : i4) (H : Hp) (K : i6 → (List d7) → Hp → Prop) : Prop :=
 ∀ (g0 : Nat), ∀ (O5 : Sl) (T4 : Frag), RowL 117 2 p9 O5 L9 T4 → Ct Tryd.prog 94 [(Value.pointer (some ⟨g0, 0, none⟩)), (Value.agg (d5 x1).toArray)] H [bx g0 114 [(vs O5)], T4] (fun v H' Fo => ∃ (y0 : i6) (a1E : (List d7)) (W4 : Sl) (W5 : Frag), v = (Value.tuple #[]) ∧ Fo = [bx g0 114 [(vs W4)], W5] ∧ RowL 117 2 p9 W4 a1E W5 ∧ K y0 a1E H') noQE
def V0 (x0 : i6) (L9 : (List d7)) (x1 : o8) (H : Hp) (K : i6 → (List d7) → Hp → Prop) : Prop :=
 ∀ (g0 : Nat), ∀ (O5 : Sl) (T4 : Frag), RowL 117 2 p9 O5 L9 T4 → Ct Tryd.prog 93 [(Value.pointer (some ⟨g0, 0, none⟩)), (Value.agg (g8 x1).toArray)] H [bx g0 114 [(vs O5)], T4] (fun v H' Fo => ∃ (y0 : i6) (a1E : (List d7)) (W4 : Sl) (W5 : Frag), v = (Value.tuple #[]) ∧ Fo = [bx g0 114 [(vs W4)], W5] ∧ RowL 117 2 p9 W4 a1E W5 ∧ K y0 a1E H') noQE
def O4 (x0 : i6) (L9 : (List d7)) (x1 : Sl) (H : Hp) (K : i6 → (List d7) → Hp → Prop) : Prop :=
 ∀ (g0 : Nat), ∀ (O5 : Sl) (T4 : Frag), RowL 117 2 p9 O5 L9 T4 → Ct Tryd.prog 55 [(Value.pointer (some ⟨g0, 0, none⟩)), (vs x1)] H [bx g0 114 [(vs O5)], T4] (fun v H' Fo => ∃ (y0 : i6) (a1E : (List d7)) (W4 : Sl) (W5 : Frag), v = (Value.tuple #[]) ∧ Fo = [bx g0 114 [(vs W4)], W5] ∧ RowL 117 2 p9 W4 a1E W5 ∧ K y0 a1E H') noQE
def a6g (x0 : C4) (H : Hp) (K : ByteArray → Int → Hp → Prop) : Prop :=
 Ct Tryd.prog 34 [(Value.agg (q9 x0).toArray)] H [] (fun v H' Fo => ∃ (r0 : ByteArray) (r1 : Int), v = (Value.tuple #[(Value.string r0), (vi r1)]) ∧ Fo = [] ∧ K r0 r1 H') noQE
def a6Z (x0 : m3) (H : Hp) (K : Int → Hp → Prop) : Prop :=
 Ct Tryd.prog 92 [(Value.agg (m7 x0).toArray)] H [] (fun v H' Fo => ∃ (r0 : Int), v = (vi r0) ∧ Fo = [] ∧ K r0 H') noQE
def a5u (x0 : i4) (H : Hp) (K : Int → Bool → Hp → Prop) : Prop :=
 Ct Tryd.prog 146 [(Value.agg (d5 x0).toArray)] H [] (fun v H' Fo => ∃ (r0 : Int) (r1 : Bool), v = (Value.tuple #[(vi r0), (vB r1)]) ∧ Fo = [] ∧ K r0 r1 H') noQE
def a1Q (x0 : E5) (H : Hp) (K : Bool → Hp → Prop) : Prop :=
 Ct Tryd.prog 169 [(Value.agg (d5 x0.m8).toArray)] H [] (fun v H' Fo => ∃ (r0 : Bool), v = (vB r0) ∧ Fo = [] ∧ K r0 H') noQE
def a5Z (x0 : i4) (H : Hp) (K : a8 → Hp → Prop) : Prop :=
 Ct Tryd.prog 172 [(Value.agg (d5 x0).toArray)] H [] (fun v H' Fo => ∃ (r0 : a8), v = (u7 r0) ∧ Fo = [] ∧ K r0 H') noQE
def t6 (x0 : Sl) (H : Hp) (K : Sl → Hp → Prop) : Prop :=
 Ct Tryd.prog 171 [(vs x0), (fC 172)] H [] (fun v H' Fo => ∃ (r0 : Sl), v = (vs r0) ∧ Fo = [] ∧ K r0 H') noQE
def a3Q (x0 : E5) (H : Hp) (K : Sl → Hp → Prop) : Prop :=
 Ct Tryd.prog 170 [(Value.agg (d5 x0.m8).toArray)] H [] (fun v H' Fo => ∃ (r0 : Sl), v = (vs r0) ∧ Fo = [] ∧ K r0 H') noQE
def a1R (x0 : L1) (H : Hp) (K : Bool → Hp → Prop) : Prop :=
 Ct Tryd.prog 173 [(Value.agg (g8 x0.m5).toArray)] H [] (fun v H' Fo => ∃ (r0 : Bool), v = (vB r0) ∧ Fo = [] ∧ K r0 H') noQE
def a6a (x0 : o8) (H : Hp) (K : a8 → Hp → Prop) : Prop :=
 Ct Tryd.prog 176 [(Value.agg (g8 x0).toArray)] H [] (fun v H' Fo => ∃ (r0 : a8), v = (u7 r0) ∧ Fo = [] ∧ K r0 H') noQE
def B0 (x0 : Sl) (H : Hp) (K : Sl → Hp → Prop) : Prop :=
 Ct Tryd.prog 175 [(vs x0), (fC 176)] H [] (fun v H' Fo => ∃ (r0 : Sl), v = (vs r0) ∧ Fo = [] ∧ K r0 H') noQE
def a3R (x0 : L1) (H : Hp) (K : Sl → Hp → Prop) : Prop :=
 Ct Tryd.prog 174 [(Value.agg (g8 x0.m5).toArray)] H [] (fun v H' Fo => ∃ (r0 : Sl), v = (vs r0) ∧ Fo = [] ∧ K r0 H') noQE
def a4F (x0 : N7) (H : Hp) (K : Bool → Hp → Prop) : Prop :=
 Ct Tryd.prog 177 [(Value.agg (m7 x0.N8).toArray)] H [] (fun v H' Fo => ∃ (r0 : Bool), v = (vB r0) ∧ Fo = [] ∧ K r0 H') noQE
def a3S (x0 : N7) (H : Hp) (K : Sl → Hp → Prop) : Prop :=
 Ct Tryd.prog 178 [(Value.agg (m7 x0.N8).toArray)] H [] (fun v H' Fo => ∃ (r0 : Sl), v = (vs r0) ∧ Fo = [] ∧ K r0 H') noQE
def a1S (x0 : L2) (H : Hp) (K : Bool → Hp → Prop) : Prop :=
 Ct Tryd.prog 179 [(Value.agg (i5 x0.i2).toArray)] H [] (fun v H' Fo => ∃ (r0 : Bool), v = (vB r0) ∧ Fo = [] ∧ K r0 H') noQE
def a3T (x0 : L2) (H : Hp) (K : Sl → Hp → Prop) : Prop :=
 Ct Tryd.prog 180 [(Value.agg (i5 x0.i2).toArray)] H [] (fun v H' Fo => ∃ (r0 : Sl), v = (vs r0) ∧ Fo = [] ∧ K r0 H') noQE
def a3e (x : a8) (H : Hp) (K : Bool → Hp → Prop) : Prop := match x with
 | .nil => False
 | .C9 y => a1Q y H K
 | .J8 y => a1R y H K
 | .G2 y => a4F y H K
 | .D5 y => a1S y H K
def a2K (x : a8) (H : Hp) (K : Sl → Hp → Prop) : Prop := match x with
 | .nil => False
 | .C9 y => a3Q y H K
 | .J8 y => a3R y H K
 | .G2 y => a3S y H K
 | .D5 y => a3T y H K
theorem b0W {E : Pan} {w0 w : World} {ps : Nat → Prop} {H0 H : Hp} {Fr : List Frag} {K : RT} {Kc : Bool → Hp → Prop} {x : a8} (I : Inv w0 ps H0 H Fr w) (h : a3e x H Kc) (hq : ∀ (r0 : Bool) (H' : Hp) (w' : World), Inv w0 ps H0 H' Fr w' → Hle H H' → (∀ i, i < w.heap.size → ¬ inF [] i → w'.heap[i]? = w.heap[i]?) → Kc r0 H' → K (vB r0) w') : oP E (xInvoke (u7 x) "gnomon/tree.form" []) w K := by
 cases x with
 | nil => exact h.elim
 | C9 y => exact a2P (f := 169) (args := [(Value.agg (d5 y.m8).toArray)].toArray) (by kernel_rfl) (m9 (Fi := []) I h (fun v H' Fo w' I' l hk hq' => by obtain ⟨r0, rfl, rfl, hK⟩ := hq'; exact hq r0 H' w' I' l hk hK) (fun _ _ _ _ _ q => q.elim))
 | J8 y => exact a2P (f := 173) (args := [(Value.agg (g8 y.m5).toArray)].toArray) (by kernel_rfl) (m9 (Fi := []) I h (fun v H' Fo w' I' l hk hq' => by obtain ⟨r0, rfl, rfl, hK⟩ := hq'; exact hq r0 H' w' I' l hk hK) (fun _ _ _ _ _ q => q.elim))
 | G2 y => exact a2P (f := 177) (args := [(Value.agg (m7 y.N8).toArray)].toArray) (by kernel_rfl) (m9 (Fi := []) I h (fun v H' Fo w' I' l hk hq' => by obtain ⟨r0, rfl, rfl, hK⟩ := hq'; exact hq r0 H' w' I' l hk hK) (fun _ _ _ _ _ q => q.elim))
 | D5 y => exact a2P (f := 179) (args := [(Value.agg (i5 y.i2).toArray)].toArray) (by kernel_rfl) (m9 (Fi := []) I h (fun v H' Fo w' I' l hk hq' => by obtain ⟨r0, rfl, rfl, hK⟩ := hq'; exact hq r0 H' w' I' l hk hK) (fun _ _ _ _ _ q => q.elim))
theorem b0y {E : Pan} {w0 w : World} {ps : Nat → Prop} {H0 H : Hp} {Fr : List Frag} {K : RT} {Kc : Sl → Hp → Prop} {x : a8} (I : Inv w0 ps H0 H Fr w) (h : a2K x H Kc) (hq : ∀ (r0 : Sl) (H' : Hp) (w' : World), Inv w0 ps H0 H' Fr w' → Hle H H' → (∀ i, i < w.heap.size → ¬ inF [] i → w'.heap[i]? = w.heap[i]?) → Kc r0 H' → K (vs r0) w') : oP E (xInvoke (u7 x) "gnomon/tree.parts" []) w K := by
 cases x with
 | nil => exact h.elim
 | C9 y => exact a2P (f := 170) (args := [(Value.agg (d5 y.m8).toArray)].toArray) (by kernel_rfl) (m9 (Fi := []) I h (fun v H' Fo w' I' l hk hq' => by obtain ⟨r0, rfl, rfl, hK⟩ := hq'; exact hq r0 H' w' I' l hk hK) (fun _ _ _ _ _ q => q.elim))
 | J8 y => exact a2P (f := 174) (args := [(Value.agg (g8 y.m5).toArray)].toArray) (by kernel_rfl) (m9 (Fi := []) I h (fun v H' Fo w' I' l hk hq' => by obtain ⟨r0, rfl, rfl, hK⟩ := hq'; exact hq r0 H' w' I' l hk hK) (fun _ _ _ _ _ q => q.elim))
 | G2 y => exact a2P (f := 178) (args := [(Value.agg (m7 y.N8).toArray)].toArray) (by kernel_rfl) (m9 (Fi := []) I h (fun v H' Fo w' I' l hk hq' => by obtain ⟨r0, rfl, rfl, hK⟩ := hq'; exact hq r0 H' w' I' l hk hK) (fun _ _ _ _ _ q => q.elim))
 | D5 y => exact a2P (f := 180) (args := [(Value.agg (i5 y.i2).toArray)].toArray) (by kernel_rfl) (m9 (Fi := []) I h (fun v H' Fo w' I' l hk hq' => by obtain ⟨r0, rfl, rfl, hK⟩ := hq'; exact hq r0 H' w' I' l hk hK) (fun _ _ _ _ _ q => q.elim))
end Go.Proofs.YtnhkdkcgdcgmdaaDoor
