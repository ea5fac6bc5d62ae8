/- Contracts of the program's functions; printed by lift.py off the code. -/
import Derived.Test.YtnhkdkcgdcgmdaaDoorzNU1
import Derived.Test.YtnhkdkcgdcgmdaaDoorzNG1a
namespace Go.Proofs.YtnhkdkcgdcgmdaaDoor
open Go.RowKit
set_option maxRecDepth 100000
set_option maxHeartbeats 2000000
def a0M (x0 : a8) (H : Hp) (K : ByteArray → Bool → Hp → Prop) : Prop :=
 Ct Tryd.prog 118 [(u6 x0)] H [] (fun v H' Fo => ∃ (r0 : ByteArray) (r1 : Bool), v = (Value.tuple #[(Value.string r0), (vB r1)]) ∧ Fo = [] ∧ K r0 r1 H') noQE
def G2 (x0 : Int) (x1 : Int) (x2 : Int) (H : Hp) (K : Bool → Hp → Prop) : Prop :=
 ∀ (g2 : Nat), Ct Tryd.prog 151 [(Value.int .i32 x0), (Value.int .i32 x1), (Value.pointer (some ⟨g2, 0, none⟩))] H [bx g2 21 [(Value.int .i32 x2)]] (fun v H' Fo => ∃ (r0 : Bool), v = (vB r0) ∧ Fo = [bx g2 21 [(Value.int .i32 x2)]] ∧ K r0 H') noQE
def a1I (x0 : Int) (H : Hp) (K : Int → Hp → Prop) : Prop :=
 Ct Tryd.prog 141 [(Value.int .i32 x0)] H [] (fun v H' Fo => ∃ (r0 : Int), v = (vi r0) ∧ Fo = [] ∧ K r0 H') noQE
def a3I (x0 : Int) (H : Hp) (K : Bool → Hp → Prop) : Prop :=
 Ct Tryd.prog 140 [(Value.int .i32 x0)] H [] (fun v H' Fo => ∃ (r0 : Bool), v = (vB r0) ∧ Fo = [] ∧ K r0 H') noQE
def a3D (x0 : ByteArray) (H : Hp) (K : Bool → Hp → Prop) : Prop :=
 Ct Tryd.prog 137 [(Value.string x0)] H [] (fun v H' Fo => ∃ (r0 : Bool), v = (vB r0) ∧ Fo = [] ∧ K r0 H') noQE
def V3 (x0 : ByteArray) (H : Hp) (K : Int → Hp → Prop) : Prop :=
 Ct Tryd.prog 150 [(Value.string x0)] H [] (fun v H' Fo => ∃ (r0 : Int), v = (vi r0) ∧ Fo = [] ∧ K r0 H') noQE
def a2t (x0 : ByteArray) (H : Hp) (K : Bool → Hp → Prop) : Prop :=
 Ct Tryd.prog 138 [(Value.string x0)] H [] (fun v H' Fo => ∃ (r0 : Bool), v = (vB r0) ∧ Fo = [] ∧ K r0 H') noQE
def a1b (x0 : ByteArray) (H : Hp) (K : Bool → Hp → Prop) : Prop :=
 Ct Tryd.prog 139 [(Value.string x0)] H [] (fun v H' Fo => ∃ (r0 : Bool), v = (vB r0) ∧ Fo = [] ∧ K r0 H') noQE
def a2u (x0 : ByteArray) (H : Hp) (K : Bool → Hp → Prop) : Prop :=
 Ct Tryd.prog 119 [(Value.string x0)] H [] (fun v H' Fo => ∃ (r0 : Bool), v = (vB r0) ∧ Fo = [] ∧ K r0 H') noQE
def a0m (x0 : (List ByteArray)) (x1 : ByteArray) (H : Hp) (K : Int → Hp → Prop) : Prop :=
 ∀ (sx0 : Sl) (Fx0 : Frag), RowL 9 1 C9 sx0 x0 Fx0 → Ct Tryd.prog 142 [(vs sx0), (Value.string x1)] H [Fx0] (fun v H' Fo => ∃ (r0 : Int), v = (vi r0) ∧ Fo = [Fx0] ∧ K r0 H') noQE
def K6 (x0 : (List ByteArray)) (x1 : ByteArray) (H : Hp) (K : Bool → Hp → Prop) : Prop :=
 ∀ (sx0 : Sl) (Fx0 : Frag), RowL 9 1 C9 sx0 x0 Fx0 → Ct Tryd.prog 120 [(vs sx0), (Value.string x1)] H [Fx0] (fun v H' Fo => ∃ (r0 : Bool), v = (vB r0) ∧ Fo = [Fx0] ∧ K r0 H') noQE
def a0Q (x0 : g8) (V4 : (List ByteArray)) (x1 : a8) (x2 : Int) (H : Hp) (K : Bool → g8 → (List ByteArray) → Hp → Prop) : Prop :=
 ∀ (g0 : Nat), ∀ (T8 : Sl) (a2i : Frag), RowL 9 1 C9 T8 V4 a2i → Ct Tryd.prog 100 [(Value.pointer (some ⟨g0, 0, none⟩)), (u6 x1), (vi x2)] H [bx g0 106 [(vi x0.fnodes), (vi x0.fdepth), (vi x0.fe), (vB x0.fform), (vB x0.fnamed), (vs T8)], a2i] (fun v H' Fo => ∃ (r0 : Bool) (y0 : g8) (a5e : (List ByteArray)) (a2X : Sl) (a2Y : Frag), v = (vB r0) ∧ Fo = [bx g0 106 [(vi y0.fnodes), (vi y0.fdepth), (vi y0.fe), (vB y0.fform), (vB y0.fnamed), (vs a2X)], a2Y] ∧ RowL 9 1 C9 a2X a5e a2Y ∧ K r0 y0 a5e H') noQE
def U3 (x0 : Sl) (x1 : Int) (x2 : g8) (a8L : (List ByteArray)) (H : Hp) (K : Bool → g8 → (List ByteArray) → Hp → Prop) : Prop :=
 ∀ (g2 g2b g3 : Nat), ∀ (b0n : Sl) (b0o : Frag), RowL 9 1 C9 b0n a8L b0o → Ct Tryd.prog 99 [(vs x0), (vi x1), (Value.pointer (some ⟨g2, 0, none⟩)), (Value.pointer (some ⟨g3, 0, none⟩))] H [bx g2 102 [(Value.pointer (some ⟨g2b, 0, none⟩))], bx g2b 106 [(vi x2.fnodes), (vi x2.fdepth), (vi x2.fe), (vB x2.fform), (vB x2.fnamed), (vs b0n)], b0o, bx g3 161 [(Value.func (.func 99) #[] #[(Value.pointer (some ⟨g2, 0, none⟩)), (Value.pointer (some ⟨g3, 0, none⟩))])]] (fun v H' Fo => ∃ (r0 : Bool) (y0 : g8) (a5e : (List ByteArray)) (a2X : Sl) (a2Y : Frag), v = (vB r0) ∧ Fo = [bx g2 102 [(Value.pointer (some ⟨g2b, 0, none⟩))], bx g2b 106 [(vi y0.fnodes), (vi y0.fdepth), (vi y0.fe), (vB y0.fform), (vB y0.fnamed), (vs a2X)], a2Y, bx g3 161 [(Value.func (.func 99) #[] #[(Value.pointer (some ⟨g2, 0, none⟩)), (Value.pointer (some ⟨g3, 0, none⟩))])]] ∧ RowL 9 1 C9 a2X a5e a2Y ∧ K r0 y0 a5e H') noQE
def a2Z (x0 : Sl) (H : Hp) (K : g8 → Hp → Prop) : Prop :=
 Ct Tryd.prog 60 [(vs x0)] H [] (fun v H' Fo => ∃ (r0 : g8) (gr0 : Nat), v = (Value.pointer (some ⟨gr0, 0, none⟩)) ∧ Fo = [bx gr0 106 (a4h r0)] ∧ K r0 H') noQE
def a5f (x0 : Int) (x1 : Int) (H : Hp) (K : Int → Int → Hp → Prop) : Prop :=
 Ct Tryd.prog 27 [(vi x0), (vi x1)] H [] (fun v H' Fo => ∃ (r0 : Int) (r1 : Int), v = (Value.tuple #[(vi r0), (vi r1)]) ∧ Fo = [] ∧ K r0 r1 H') noQE
def a8M (x0 : Int) (H : Hp) (K : Int → Int → Hp → Prop) : Prop :=
 Ct Tryd.prog 101 [(vi x0)] H [] (fun v H' Fo => ∃ (r0 : Int) (r1 : Int), v = (Value.tuple #[(vi r0), (vi r1)]) ∧ Fo = [] ∧ K r0 r1 H') noQE
def a8N (x0 : Int) (x1 : Int) (H : Hp) (K : Int → Int → Hp → Prop) : Prop :=
 Ct Tryd.prog 26 [(vi x0), (vi x1)] H [] (fun v H' Fo => ∃ (r0 : Int) (r1 : Int), v = (Value.tuple #[(vi r0), (vi r1)]) ∧ Fo = [] ∧ K r0 r1 H') noQE
def a2v (x0 : Int) (H : Hp) (K : Int → Hp → Prop) : Prop :=
 Ct Tryd.prog 48 [(vi x0)] H [] (fun v H' Fo => ∃ (r0 : Int), v = (Value.int .u64 r0) ∧ Fo = [] ∧ K r0 H') noQE
def a4D (x0 : Int) (x1 : Int) (H : Hp) (K : Int → Int → Hp → Prop) : Prop :=
 Ct Tryd.prog 47 [(Value.int .u64 x0), (Value.int .u64 x1)] H [] (fun v H' Fo => ∃ (r0 : Int) (r1 : Int), v = (Value.tuple #[(Value.int .u64 r0), (Value.int .u64 r1)]) ∧ Fo = [] ∧ K r0 r1 H') noQE
def a8O (x0 : Int) (x1 : Int) (H : Hp) (K : Int → Int → Hp → Prop) : Prop :=
 Ct Tryd.prog 28 [(vi x0), (vi x1)] H [] (fun v H' Fo => ∃ (r0 : Int) (r1 : Int), v = (Value.tuple #[(vi r0), (vi r1)]) ∧ Fo = [] ∧ K r0 r1 H') noQE
def a1j (x0 : Int) (x1 : Int) (H : Hp) (K : Int → Hp → Prop) : Prop :=
 Ct Tryd.prog 49 [(vi x0), (vi x1)] H [] (fun v H' Fo => ∃ (r0 : Int), v = (vi r0) ∧ Fo = [] ∧ K r0 H') noQE
def a8P (x0 : Int) (x1 : Int) (H : Hp) (K : Int → Int → Hp → Prop) : Prop :=
 Ct Tryd.prog 29 [(vi x0), (vi x1)] H [] (fun v H' Fo => ∃ (r0 : Int) (r1 : Int), v = (Value.tuple #[(vi r0), (vi r1)]) ∧ Fo = [] ∧ K r0 r1 H') noQE
def a8Q (x0 : Int) (x1 : Int) (H : Hp) (K : Int → Int → Hp → Prop) : Prop :=
 Ct Tryd.prog 30 [(vi x0), (vi x1)] H [] (fun v H' Fo => ∃ (r0 : Int) (r1 : Int), v = (Value.tuple #[(vi r0), (vi r1)]) ∧ Fo = [] ∧ K r0 r1 H') noQE
def a2L (H : Hp) (K : Hp → Prop) : Prop :=
 Ct Tryd.prog 110 [] H [] (fun v H' Fo => v = (Value.agg #[(fC 123), (fC 124), (fC 125), (fC 126), (fC 127), (fC 128), (fC 129)]) ∧ Fo = [] ∧ K H') noQE
def b4k (x0 : Int) (x1 : Int) (H : Hp) (K : Bool → Hp → Prop) : Prop :=
 Ct Tryd.prog 123 [(vi x0), (vi x1)] H [] (fun v H' Fo => ∃ (r0 : Bool), v = (vB r0) ∧ Fo = [] ∧ K r0 H') noQE
def a4v (x0 : Int) (x1 : Int) (H : Hp) (K : Bool → Hp → Prop) : Prop :=
 Ct Tryd.prog 124 [(vi x0), (vi x1)] H [] (fun v H' Fo => ∃ (r0 : Bool), v = (vB r0) ∧ Fo = [] ∧ K r0 H') noQE
def a4w (x0 : Int) (x1 : Int) (H : Hp) (K : Bool → Hp → Prop) : Prop :=
 Ct Tryd.prog 125 [(vi x0), (vi x1)] H [] (fun v H' Fo => ∃ (r0 : Bool), v = (vB r0) ∧ Fo = [] ∧ K r0 H') noQE
def a4x (x0 : Int) (x1 : Int) (H : Hp) (K : Bool → Hp → Prop) : Prop :=
 Ct Tryd.prog 126 [(vi x0), (vi x1)] H [] (fun v H' Fo => ∃ (r0 : Bool), v = (vB r0) ∧ Fo = [] ∧ K r0 H') noQE
def a4y (x0 : Int) (x1 : Int) (H : Hp) (K : Bool → Hp → Prop) : Prop :=
 Ct Tryd.prog 127 [(vi x0), (vi x1)] H [] (fun v H' Fo => ∃ (r0 : Bool), v = (vB r0) ∧ Fo = [] ∧ K r0 H') noQE
def a4z (x0 : Int) (x1 : Int) (H : Hp) (K : Bool → Hp → Prop) : Prop :=
 Ct Tryd.prog 128 [(vi x0), (vi x1)] H [] (fun v H' Fo => ∃ (r0 : Bool), v = (vB r0) ∧ Fo = [] ∧ K r0 H') noQE
def a4A (x0 : Int) (x1 : Int) (H : Hp) (K : Bool → Hp → Prop) : Prop :=
 Ct Tryd.prog 129 [(vi x0), (vi x1)] H [] (fun v H' Fo => ∃ (r0 : Bool), v = (vB r0) ∧ Fo = [] ∧ K r0 H') noQE
def a8R (x0 : Int) (x1 : Int) (x2 : Int) (H : Hp) (K : Bool → Hp → Prop) : Prop :=
 Ct Tryd.prog 75 [(vi x0), (vi x1), (vi x2)] H [] (fun v H' Fo => ∃ (r0 : Bool), v = (vB r0) ∧ Fo = [] ∧ K r0 H') noQE
def a1F (x0 : r9) (x1 : Sl) (x2 : Int) (H : Hp) (K : o2 → Int → Hp → Prop) : Prop :=
 Ct Tryd.prog 18 [(Value.agg (m6 x0).toArray), (vs x1), (vi x2)] H [] (fun v H' Fo => ∃ (r0 : o2) (r1 : Int), v = (Value.tuple #[(Value.agg (d7 r0).toArray), (vi r1)]) ∧ Fo = [] ∧ K r0 r1 H') noQE
def V7 (x0 : Sl) (x1 : Sl) (H : Hp) (K : Bool → Hp → Prop) : Prop :=
 Ct Tryd.prog 46 [(vs x0), (vs x1)] H [] (fun v H' Fo => ∃ (r0 : Bool), v = (vB r0) ∧ Fo = [] ∧ K r0 H') noQE
def O1 (x0 : o2) (x1 : o2) (H : Hp) (K : Bool → Hp → Prop) : Prop :=
 Ct Tryd.prog 20 [(Value.agg (d7 x0).toArray), (Value.agg (d7 x1).toArray)] H [] (fun v H' Fo => ∃ (r0 : Bool), v = (vB r0) ∧ Fo = [] ∧ K r0 H') noQE
def a1k (H : Hp) (K : Bool → Hp → Prop) : Prop :=
 Ct Tryd.prog 17 [] H [] (fun v H' Fo => ∃ (r0 : Bool), v = (vB r0) ∧ Fo = [] ∧ K r0 H') noQE
def a0R (x0 : Sl) (x1 : Sl) (H : Hp) (K : Bool → Hp → Prop) : Prop :=
 Ct Tryd.prog 19 [(vs x0), (vs x1)] H [] (fun v H' Fo => ∃ (r0 : Bool), v = (vB r0) ∧ Fo = [] ∧ K r0 H') noQE
def V8 (x0 : r9) (x1 : Sl) (x2 : Int) (x3 : Int) (H : Hp) (K : Bool → Hp → Prop) : Prop :=
 Ct Tryd.prog 4 [(Value.agg (m6 x0).toArray), (vs x1), (vi x2), (vi x3)] H [] (fun v H' Fo => ∃ (r0 : Bool), v = (vB r0) ∧ Fo = [] ∧ K r0 H') noQE
def a6c (x0 : j9) (H : Hp) (K : a8 → Hp → Prop) : Prop :=
 Ct Tryd.prog 89 [(Value.agg (m7 x0).toArray)] H [] (fun v H' Fo => ∃ (r0 : a8), v = (u6 r0) ∧ Fo = [] ∧ K r0 H') noQE
def E4 (x0 : Sl) (H : Hp) (K : Sl → Hp → Prop) : Prop :=
 Ct Tryd.prog 88 [(vs x0), (fC 89)] H [] (fun v H' Fo => ∃ (r0 : Sl), v = (vs r0) ∧ Fo = [] ∧ K r0 H') noQE
def a6d (x0 : r6) (H : Hp) (K : a8 → Hp → Prop) : Prop :=
 Ct Tryd.prog 91 [(Value.agg (g7 x0).toArray)] H [] (fun v H' Fo => ∃ (r0 : a8), v = (u6 r0) ∧ Fo = [] ∧ K r0 H') noQE
def s8 (x0 : Sl) (H : Hp) (K : Sl → Hp → Prop) : Prop :=
 Ct Tryd.prog 90 [(vs x0), (fC 91)] H [] (fun v H' Fo => ∃ (r0 : Sl), v = (vs r0) ∧ Fo = [] ∧ K r0 H') noQE
def O2 (x1 : Int) (H : Hp) (K : (List a8) → Hp → Prop) : Prop :=
 Ct Tryd.prog 117 [(nS), (vi x1)] H [] (fun v H' Fo => ∃ (r0 : (List a8)) (sr0 : Sl) (Fr0 : Frag), v = (vs sr0) ∧ Fo = [Fr0] ∧ RowL 152 1 o7 sr0 r0 Fr0 ∧ K r0 H') noQE
def A0 (x0 : Sl) (H : Hp) (K : Sl → Hp → Prop) : Prop :=
 Ct Tryd.prog 87 [(vs x0)] H [] (fun v H' Fo => ∃ (r0 : Sl), v = (vs r0) ∧ Fo = [] ∧ K r0 H') noQE
def a4E (x0 : r9) (H : Hp) (K : g8 → Hp → Prop) : Prop :=
 Ct Tryd.prog 52 [(Value.agg (m6 x0).toArray)] H [] (fun v H' Fo => ∃ (r0 : g8) (gr0 : Nat), v = (Value.pointer (some ⟨gr0, 0, none⟩)) ∧ Fo = [bx gr0 106 (a4h r0)] ∧ K r0 H') noQE
def a3J (x0 : r9) (H : Hp) (K : Int → Hp → Prop) : Prop :=
 Ct Tryd.prog 53 [(Value.agg (m6 x0).toArray)] H [] (fun v H' Fo => ∃ (r0 : Int), v = (vi r0) ∧ Fo = [] ∧ K r0 H') noQE
def a4N (x0 : Sl) (H : Hp) (K : (Option Nat) → ByteArray → Int → Hp → Prop) : Prop :=
 Ct Tryd.prog 54 [(vs x0)] H [] (fun v H' Fo => ∃ (r0 : (Option Nat)) (r1 : ByteArray) (r2 : Int), v = (Value.tuple #[(Value.map r0), (Value.string r1), (vi r2)]) ∧ Fo = [] ∧ K r0 r1 r2 H') noQE
def Q7 (x0 : f8) (M3 : (List b8)) (x1 : l7) (H : Hp) (K : f8 → (List b8) → Hp → Prop) : Prop :=
 ∀ (g0 : Nat), ∀ (P9 : Sl) (T9 : Frag), RowL 117 2 p6 P9 M3 T9 → Ct Tryd.prog 94 [(Value.pointer (some ⟨g0, 0, none⟩)), (Value.agg (d9 x1).toArray)] H [bx g0 114 [(vs P9)], T9] (fun v H' Fo => ∃ (y0 : f8) (a1G : (List b8)) (X6 : Sl) (X7 : Frag), v = (Value.tuple #[]) ∧ Fo = [bx g0 114 [(vs X6)], X7] ∧ RowL 117 2 p6 X6 a1G X7 ∧ K y0 a1G H') noQE
def V9 (x0 : f8) (M3 : (List b8)) (x1 : u1) (H : Hp) (K : f8 → (List b8) → Hp → Prop) : Prop :=
 ∀ (g0 : Nat), ∀ (P9 : Sl) (T9 : Frag), RowL 117 2 p6 P9 M3 T9 → Ct Tryd.prog 93 [(Value.pointer (some ⟨g0, 0, none⟩)), (Value.agg (i7 x1).toArray)] H [bx g0 114 [(vs P9)], T9] (fun v H' Fo => ∃ (y0 : f8) (a1G : (List b8)) (X6 : Sl) (X7 : Frag), v = (Value.tuple #[]) ∧ Fo = [bx g0 114 [(vs X6)], X7] ∧ RowL 117 2 p6 X6 a1G X7 ∧ K y0 a1G H') noQE
def P7 (x0 : f8) (M3 : (List b8)) (x1 : Sl) (H : Hp) (K : f8 → (List b8) → Hp → Prop) : Prop :=
 ∀ (g0 : Nat), ∀ (P9 : Sl) (T9 : Frag), RowL 117 2 p6 P9 M3 T9 → Ct Tryd.prog 55 [(Value.pointer (some ⟨g0, 0, none⟩)), (vs x1)] H [bx g0 114 [(vs P9)], T9] (fun v H' Fo => ∃ (y0 : f8) (a1G : (List b8)) (X6 : Sl) (X7 : Frag), v = (Value.tuple #[]) ∧ Fo = [bx g0 114 [(vs X6)], X7] ∧ RowL 117 2 p6 X6 a1G X7 ∧ K y0 a1G H') noQE
def a6n (x0 : r9) (H : Hp) (K : ByteArray → Int → Hp → Prop) : Prop :=
 Ct Tryd.prog 34 [(Value.agg (m6 x0).toArray)] H [] (fun v H' Fo => ∃ (r0 : ByteArray) (r1 : Int), v = (Value.tuple #[(Value.string r0), (vi r1)]) ∧ Fo = [] ∧ K r0 r1 H') noQE
def a7i (x0 : j9) (H : Hp) (K : Int → Hp → Prop) : Prop :=
 Ct Tryd.prog 92 [(Value.agg (m7 x0).toArray)] H [] (fun v H' Fo => ∃ (r0 : Int), v = (vi r0) ∧ Fo = [] ∧ K r0 H') noQE
def a5A (x0 : l7) (H : Hp) (K : Int → Bool → Hp → Prop) : Prop :=
 Ct Tryd.prog 146 [(Value.agg (d9 x0).toArray)] H [] (fun v H' Fo => ∃ (r0 : Int) (r1 : Bool), v = (Value.tuple #[(vi r0), (vB r1)]) ∧ Fo = [] ∧ K r0 r1 H') noQE
def a1R (x0 : E7) (H : Hp) (K : Bool → Hp → Prop) : Prop :=
 Ct Tryd.prog 169 [(Value.agg (d9 x0.m5).toArray)] H [] (fun v H' Fo => ∃ (r0 : Bool), v = (vB r0) ∧ Fo = [] ∧ K r0 H') noQE
def a6e (x0 : l7) (H : Hp) (K : a8 → Hp → Prop) : Prop :=
 Ct Tryd.prog 172 [(Value.agg (d9 x0).toArray)] H [] (fun v H' Fo => ∃ (r0 : a8), v = (u6 r0) ∧ Fo = [] ∧ K r0 H') noQE
def t1 (x0 : Sl) (H : Hp) (K : Sl → Hp → Prop) : Prop :=
 Ct Tryd.prog 171 [(vs x0), (fC 172)] H [] (fun v H' Fo => ∃ (r0 : Sl), v = (vs r0) ∧ Fo = [] ∧ K r0 H') noQE
def a3P (x0 : E7) (H : Hp) (K : Sl → Hp → Prop) : Prop :=
 Ct Tryd.prog 170 [(Value.agg (d9 x0.m5).toArray)] H [] (fun v H' Fo => ∃ (r0 : Sl), v = (vs r0) ∧ Fo = [] ∧ K r0 H') noQE
def a1S (x0 : L4) (H : Hp) (K : Bool → Hp → Prop) : Prop :=
 Ct Tryd.prog 173 [(Value.agg (i7 x0.k5).toArray)] H [] (fun v H' Fo => ∃ (r0 : Bool), v = (vB r0) ∧ Fo = [] ∧ K r0 H') noQE
def a6f (x0 : u1) (H : Hp) (K : a8 → Hp → Prop) : Prop :=
 Ct Tryd.prog 176 [(Value.agg (i7 x0).toArray)] H [] (fun v H' Fo => ∃ (r0 : a8), v = (u6 r0) ∧ Fo = [] ∧ K r0 H') noQE
def A8 (x0 : Sl) (H : Hp) (K : Sl → Hp → Prop) : Prop :=
 Ct Tryd.prog 175 [(vs x0), (fC 176)] H [] (fun v H' Fo => ∃ (r0 : Sl), v = (vs r0) ∧ Fo = [] ∧ K r0 H') noQE
def a3Q (x0 : L4) (H : Hp) (K : Sl → Hp → Prop) : Prop :=
 Ct Tryd.prog 174 [(Value.agg (i7 x0.k5).toArray)] H [] (fun v H' Fo => ∃ (r0 : Sl), v = (vs r0) ∧ Fo = [] ∧ K r0 H') noQE
def a4B (x0 : O5) (H : Hp) (K : Bool → Hp → Prop) : Prop :=
 Ct Tryd.prog 177 [(Value.agg (m7 x0.O6).toArray)] H [] (fun v H' Fo => ∃ (r0 : Bool), v = (vB r0) ∧ Fo = [] ∧ K r0 H') noQE
def a3R (x0 : O5) (H : Hp) (K : Sl → Hp → Prop) : Prop :=
 Ct Tryd.prog 178 [(Value.agg (m7 x0.O6).toArray)] H [] (fun v H' Fo => ∃ (r0 : Sl), v = (vs r0) ∧ Fo = [] ∧ K r0 H') noQE
def a1T (x0 : L5) (H : Hp) (K : Bool → Hp → Prop) : Prop :=
 Ct Tryd.prog 179 [(Value.agg (g7 x0.d8).toArray)] H [] (fun v H' Fo => ∃ (r0 : Bool), v = (vB r0) ∧ Fo = [] ∧ K r0 H') noQE
def a3S (x0 : L5) (H : Hp) (K : Sl → Hp → Prop) : Prop :=
 Ct Tryd.prog 180 [(Value.agg (g7 x0.d8).toArray)] H [] (fun v H' Fo => ∃ (r0 : Sl), v = (vs r0) ∧ Fo = [] ∧ K r0 H') noQE
def a3b (x : a8) (H : Hp) (K : Bool → Hp → Prop) : Prop := match x with
 | .nil => False
 | .D1 y => a1R y H K
 | .J0 y => a1S y H K
 | .G5 y => a4B y H K
 | .D7 y => a1T y H K
def a2M (x : a8) (H : Hp) (K : Sl → Hp → Prop) : Prop := match x with
 | .nil => False
 | .D1 y => a3P y H K
 | .J0 y => a3Q y H K
 | .G5 y => a3R y H K
 | .D7 y => a3S y H K
theorem b1h {E : Pan} {w0 w : World} {ps : Nat → Prop} {H0 H : Hp} {Fr : List Frag} {K : RT} {Kc : Bool → Hp → Prop} {x : a8} (I : Inv w0 ps H0 H Fr w) (h : a3b x H Kc) (hq : ∀ (r0 : Bool) (H' : Hp) (w' : World), Inv w0 ps H0 H' Fr w' → Hle H H' → (∀ i, i < w.heap.size → ¬ inF [] i → w'.heap[i]? = w.heap[i]?) → Kc r0 H' → K (vB r0) w') : oP E (xInvoke (u6 x) "gnomon/tree.form" []) w K := by
 cases x with
 | nil => exact h.elim
 | D1 y => exact a2S (f := 169) (args := [(Value.agg (d9 y.m5).toArray)].toArray) (by kernel_rfl) (m8 (Fi := []) I h (fun v H' Fo w' I' l hk hq' => by obtain ⟨r0, rfl, rfl, hK⟩ := hq'; exact hq r0 H' w' I' l hk hK) (fun _ _ _ _ _ q => q.elim))
 | J0 y => exact a2S (f := 173) (args := [(Value.agg (i7 y.k5).toArray)].toArray) (by kernel_rfl) (m8 (Fi := []) I h (fun v H' Fo w' I' l hk hq' => by obtain ⟨r0, rfl, rfl, hK⟩ := hq'; exact hq r0 H' w' I' l hk hK) (fun _ _ _ _ _ q => q.elim))
 | G5 y => exact a2S (f := 177) (args := [(Value.agg (m7 y.O6).toArray)].toArray) (by kernel_rfl) (m8 (Fi := []) I h (fun v H' Fo w' I' l hk hq' => by obtain ⟨r0, rfl, rfl, hK⟩ := hq'; exact hq r0 H' w' I' l hk hK) (fun _ _ _ _ _ q => q.elim))
 | D7 y => exact a2S (f := 179) (args := [(Value.agg (g7 y.d8).toArray)].toArray) (by kernel_rfl) (m8 (Fi := []) I h (fun v H' Fo w' I' l hk hq' => by obtain ⟨r0, rfl, rfl, hK⟩ := hq'; exact hq r0 H' w' I' l hk hK) (fun _ _ _ _ _ q => q.elim))
theorem b0K {E : Pan} {w0 w : World} {ps : Nat → Prop} {H0 H : Hp} {Fr : List Frag} {K : RT} {Kc : Sl → Hp → Prop} {x : a8} (I : Inv w0 ps H0 H Fr w) (h : a2M x H Kc) (hq : ∀ (r0 : Sl) (H' : Hp) (w' : World), Inv w0 ps H0 H' Fr w' → Hle H H' → (∀ i, i < w.heap.size → ¬ inF [] i → w'.heap[i]? = w.heap[i]?) → Kc r0 H' → K (vs r0) w') : oP E (xInvoke (u6 x) "gnomon/tree.parts" []) w K := by
 cases x with
 | nil => exact h.elim
 | D1 y => exact a2S (f := 170) (args := [(Value.agg (d9 y.m5).toArray)].toArray) (by kernel_rfl) (m8 (Fi := []) I h (fun v H' Fo w' I' l hk hq' => by obtain ⟨r0, rfl, rfl, hK⟩ := hq'; exact hq r0 H' w' I' l hk hK) (fun _ _ _ _ _ q => q.elim))
 | J0 y => exact a2S (f := 174) (args := [(Value.agg (i7 y.k5).toArray)].toArray) (by kernel_rfl) (m8 (Fi := []) I h (fun v H' Fo w' I' l hk hq' => by obtain ⟨r0, rfl, rfl, hK⟩ := hq'; exact hq r0 H' w' I' l hk hK) (fun _ _ _ _ _ q => q.elim))
 | G5 y => exact a2S (f := 178) (args := [(Value.agg (m7 y.O6).toArray)].toArray) (by kernel_rfl) (m8 (Fi := []) I h (fun v H' Fo w' I' l hk hq' => by obtain ⟨r0, rfl, rfl, hK⟩ := hq'; exact hq r0 H' w' I' l hk hK) (fun _ _ _ _ _ q => q.elim))
 | D7 y => exact a2S (f := 180) (args := [(Value.agg (g7 y.d8).toArray)].toArray) (by kernel_rfl) (m8 (Fi := []) I h (fun v H' Fo w' I' l hk hq' => by obtain ⟨r0, rfl, rfl, hK⟩ := hq'; exact hq r0 H' w' I' l hk hK) (fun _ _ _ _ _ q => q.elim))
end Go.Proofs.YtnhkdkcgdcgmdaaDoor
