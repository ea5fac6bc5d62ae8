/- Contracts of the program's functions; printed by lift.py off the code. -/
import Derived.Test.YtnhkdkcgdcgmdaaDoorzRU1
import Derived.Test.YtnhkdkcgdcgmdaaDoorzRG1a
namespace Go.Proofs.YtnhkdkcgdcgmdaaDoor
open Go.RowKit
set_option maxRecDepth 100000
set_option maxHeartbeats 2000000
def N1 (x0 : Int) (H : Hp) (K : a7 → Hp → Prop) : Prop :=
 Ct Tryd.prog 36 [(vi x0)] H [] (fun v H' Fo => ∃ (r0 : a7), v = (Value.agg (b8 r0).toArray) ∧ Fo = [] ∧ K r0 H') noQE
def a2i (x0 : f6) (H : Hp) (K : ByteArray → Bool → Hp → Prop) : Prop :=
 Ct Tryd.prog 118 [(A6 x0)] H [] (fun v H' Fo => ∃ (r0 : ByteArray) (r1 : Bool), v = (Value.tuple #[(Value.string r0), (Value.bool r1)]) ∧ Fo = [] ∧ K r0 r1 H') noQE
def G4 (x0 : Int) (x1 : Int) (x2 : Int) (H : Hp) (K : Bool → Hp → Prop) : Prop :=
 ∀ (g2 : Nat), Ct Tryd.prog 151 [(Value.int .i32 x0), (Value.int .i32 x1), (Value.pointer (some ⟨g2, 0, none⟩))] H [bx g2 21 [(Value.int .i32 x2)]] (fun v H' Fo => ∃ (r0 : Bool), v = (Value.bool r0) ∧ Fo = [bx g2 21 [(Value.int .i32 x2)]] ∧ K r0 H') noQE
def a3G (x0 : Int) (H : Hp) (K : Int → Hp → Prop) : Prop :=
 Ct Tryd.prog 141 [(Value.int .i32 x0)] H [] (fun v H' Fo => ∃ (r0 : Int), v = (vi r0) ∧ Fo = [] ∧ K r0 H') noQE
def a5T (x0 : Int) (H : Hp) (K : Bool → Hp → Prop) : Prop :=
 Ct Tryd.prog 140 [(Value.int .i32 x0)] H [] (fun v H' Fo => ∃ (r0 : Bool), v = (Value.bool r0) ∧ Fo = [] ∧ K r0 H') noQE
def a5O (x0 : ByteArray) (H : Hp) (K : Bool → Hp → Prop) : Prop :=
 Ct Tryd.prog 137 [(Value.string x0)] H [] (fun v H' Fo => ∃ (r0 : Bool), v = (Value.bool r0) ∧ Fo = [] ∧ K r0 H') noQE
def Z6 (x0 : ByteArray) (H : Hp) (K : Int → Hp → Prop) : Prop :=
 Ct Tryd.prog 150 [(Value.string x0)] H [] (fun v H' Fo => ∃ (r0 : Int), v = (vi r0) ∧ Fo = [] ∧ K r0 H') noQE
def a4H (x0 : ByteArray) (H : Hp) (K : Bool → Hp → Prop) : Prop :=
 Ct Tryd.prog 138 [(Value.string x0)] H [] (fun v H' Fo => ∃ (r0 : Bool), v = (Value.bool r0) ∧ Fo = [] ∧ K r0 H') noQE
def a2E (x0 : ByteArray) (H : Hp) (K : Bool → Hp → Prop) : Prop :=
 Ct Tryd.prog 139 [(Value.string x0)] H [] (fun v H' Fo => ∃ (r0 : Bool), v = (Value.bool r0) ∧ Fo = [] ∧ K r0 H') noQE
def a4I (x0 : ByteArray) (H : Hp) (K : Bool → Hp → Prop) : Prop :=
 Ct Tryd.prog 119 [(Value.string x0)] H [] (fun v H' Fo => ∃ (r0 : Bool), v = (Value.bool r0) ∧ Fo = [] ∧ K r0 H') noQE
def a1D (x0 : (List ByteArray)) (x1 : ByteArray) (H : Hp) (K : Int → Hp → Prop) : Prop :=
 ∀ (sx0 : Sl) (Fx0 : Frag), RowL 9 1 D8 sx0 x0 Fx0 → Ct Tryd.prog 142 [(vs sx0), (Value.string x1)] H [Fx0] (fun v H' Fo => ∃ (r0 : Int), v = (vi r0) ∧ Fo = [Fx0] ∧ K r0 H') noQE
def J2 (x0 : (List ByteArray)) (x1 : ByteArray) (H : Hp) (K : Bool → Hp → Prop) : Prop :=
 ∀ (sx0 : Sl) (Fx0 : Frag), RowL 9 1 D8 sx0 x0 Fx0 → Ct Tryd.prog 120 [(vs sx0), (Value.string x1)] H [Fx0] (fun v H' Fo => ∃ (r0 : Bool), v = (Value.bool r0) ∧ Fo = [Fx0] ∧ K r0 H') noQE
def a2x (x0 : i9) (Z7 : (List ByteArray)) (x1 : f6) (x2 : Int) (H : Hp) (K : Bool → i9 → (List ByteArray) → Hp → Prop) : Prop :=
 ∀ (g0 : Nat), ∀ (W5 : Sl) (a4i : Frag), RowL 9 1 D8 W5 Z7 a4i → Ct Tryd.prog 100 [(Value.pointer (some ⟨g0, 0, none⟩)), (A6 x1), (vi x2)] H [bx g0 106 [(vi x0.fnodes), (vi x0.fdepth), (vi x0.fe), (Value.bool x0.fform), (Value.bool x0.fnamed), (vs W5)], a4i] (fun v H' Fo => ∃ (r0 : Bool) (y0 : i9) (a7W : (List ByteArray)) (a5j : Sl) (a5k : Frag), v = (Value.bool r0) ∧ Fo = [bx g0 106 [(vi y0.fnodes), (vi y0.fdepth), (vi y0.fe), (Value.bool y0.fform), (Value.bool y0.fnamed), (vs a5j)], a5k] ∧ RowL 9 1 D8 a5j a7W a5k ∧ K r0 y0 a7W H') noQE
def X4 (x0 : Sl) (x1 : Int) (x2 : i9) (b2j : (List ByteArray)) (H : Hp) (K : Bool → i9 → (List ByteArray) → Hp → Prop) : Prop :=
 ∀ (g2 g2b g3 : Nat), ∀ (b4d : Sl) (b4e : Frag), RowL 9 1 D8 b4d b2j b4e → Ct Tryd.prog 99 [(vs x0), (vi x1), (Value.pointer (some ⟨g2, 0, none⟩)), (Value.pointer (some ⟨g3, 0, none⟩))] H [bx g2 102 [(Value.pointer (some ⟨g2b, 0, none⟩))], bx g2b 106 [(vi x2.fnodes), (vi x2.fdepth), (vi x2.fe), (Value.bool x2.fform), (Value.bool x2.fnamed), (vs b4d)], b4e, bx g3 161 [(Value.func (.func 99) #[] #[(Value.pointer (some ⟨g2, 0, none⟩)), (Value.pointer (some ⟨g3, 0, none⟩))])]] (fun v H' Fo => ∃ (r0 : Bool) (y0 : i9) (a7W : (List ByteArray)) (a5j : Sl) (a5k : Frag), v = (Value.bool r0) ∧ Fo = [bx g2 102 [(Value.pointer (some ⟨g2b, 0, none⟩))], bx g2b 106 [(vi y0.fnodes), (vi y0.fdepth), (vi y0.fe), (Value.bool y0.fform), (Value.bool y0.fnamed), (vs a5j)], a5k, bx g3 161 [(Value.func (.func 99) #[] #[(Value.pointer (some ⟨g2, 0, none⟩)), (Value.pointer (some ⟨g3, 0, none⟩))])]] ∧ RowL 9 1 D8 a5j a7W a5k ∧ K r0 y0 a7W H') noQE
def a2K (x0 : Sl) (H : Hp) (K : i9 → Hp → Prop) : Prop :=
 Ct Tryd.prog 60 [(vs x0)] H [] (fun v H' Fo => ∃ (r0 : i9) (gr0 : Nat), v = (Value.pointer (some ⟨gr0, 0, none⟩)) ∧ Fo = [bx gr0 106 (b5o r0)] ∧ K r0 H') noQE
def a6z (x0 : a7) (H : Hp) (K : Int → Hp → Prop) : Prop :=
 Ct Tryd.prog 37 [(Value.agg (b8 x0).toArray)] H [] (fun v H' Fo => ∃ (r0 : Int), v = (vi r0) ∧ Fo = [] ∧ K r0 H') noQE
def H7 (x0 : a7) (H : Hp) (K : Int → Bool → Hp → Prop) : Prop :=
 Ct Tryd.prog 62 [(Value.agg (b8 x0).toArray)] H [] (fun v H' Fo => ∃ (r0 : Int) (r1 : Bool), v = (Value.tuple #[(vi r0), (Value.bool r1)]) ∧ Fo = [] ∧ K r0 r1 H') noQE
def R6 (x0 : a7) (x1 : Int) (H : Hp) (K : Bool → Hp → Prop) : Prop :=
 Ct Tryd.prog 65 [(Value.agg (b8 x0).toArray), (vi x1)] H [] (fun v H' Fo => ∃ (r0 : Bool), v = (Value.bool r0) ∧ Fo = [] ∧ K r0 H') noQE
def w7 (x0 : Sl) (H : Hp) (K : Sl → Hp → Prop) : Prop :=
 Ct Tryd.prog 61 [(vs x0), (Value.func (.func 38) #[] #[])] H [] (fun v H' Fo => ∃ (r0 : Sl), v = (vs r0) ∧ Fo = [] ∧ K r0 H') noQE
def a1V (x0 : Int) (H : Hp) (K : a7 → Hp → Prop) : Prop :=
 Ct Tryd.prog 63 [(vi x0)] H [] (fun v H' Fo => ∃ (r0 : a7), v = (Value.agg (b8 r0).toArray) ∧ Fo = [] ∧ K r0 H') noQE
def a3p (x0 : Int) (x1 : Int) (H : Hp) (K : Int → Int → Hp → Prop) : Prop :=
 Ct Tryd.prog 27 [(vi x0), (vi x1)] H [] (fun v H' Fo => ∃ (r0 : Int) (r1 : Int), v = (Value.tuple #[(vi r0), (vi r1)]) ∧ Fo = [] ∧ K r0 r1 H') noQE
def a5l (x0 : Int) (H : Hp) (K : Int → Int → Hp → Prop) : Prop :=
 Ct Tryd.prog 101 [(vi x0)] H [] (fun v H' Fo => ∃ (r0 : Int) (r1 : Int), v = (Value.tuple #[(vi r0), (vi r1)]) ∧ Fo = [] ∧ K r0 r1 H') noQE
def a5m (x0 : Int) (x1 : Int) (H : Hp) (K : Int → Int → Hp → Prop) : Prop :=
 Ct Tryd.prog 26 [(vi x0), (vi x1)] H [] (fun v H' Fo => ∃ (r0 : Int) (r1 : Int), v = (Value.tuple #[(vi r0), (vi r1)]) ∧ Fo = [] ∧ K r0 r1 H') noQE
def a4J (x0 : Int) (H : Hp) (K : Int → Hp → Prop) : Prop :=
 Ct Tryd.prog 48 [(vi x0)] H [] (fun v H' Fo => ∃ (r0 : Int), v = (Value.int .u64 r0) ∧ Fo = [] ∧ K r0 H') noQE
def a7t (x0 : Int) (x1 : Int) (H : Hp) (K : Int → Int → Hp → Prop) : Prop :=
 Ct Tryd.prog 47 [(Value.int .u64 x0), (Value.int .u64 x1)] H [] (fun v H' Fo => ∃ (r0 : Int) (r1 : Int), v = (Value.tuple #[(Value.int .u64 r0), (Value.int .u64 r1)]) ∧ Fo = [] ∧ K r0 r1 H') noQE
def a5n (x0 : Int) (x1 : Int) (H : Hp) (K : Int → Int → Hp → Prop) : Prop :=
 Ct Tryd.prog 28 [(vi x0), (vi x1)] H [] (fun v H' Fo => ∃ (r0 : Int) (r1 : Int), v = (Value.tuple #[(vi r0), (vi r1)]) ∧ Fo = [] ∧ K r0 r1 H') noQE
def a2L (x0 : Int) (x1 : Int) (H : Hp) (K : Int → Hp → Prop) : Prop :=
 Ct Tryd.prog 49 [(vi x0), (vi x1)] H [] (fun v H' Fo => ∃ (r0 : Int), v = (vi r0) ∧ Fo = [] ∧ K r0 H') noQE
def a5o (x0 : Int) (x1 : Int) (H : Hp) (K : Int → Int → Hp → Prop) : Prop :=
 Ct Tryd.prog 29 [(vi x0), (vi x1)] H [] (fun v H' Fo => ∃ (r0 : Int) (r1 : Int), v = (Value.tuple #[(vi r0), (vi r1)]) ∧ Fo = [] ∧ K r0 r1 H') noQE
def a5p (x0 : Int) (x1 : Int) (H : Hp) (K : Int → Int → Hp → Prop) : Prop :=
 Ct Tryd.prog 30 [(vi x0), (vi x1)] H [] (fun v H' Fo => ∃ (r0 : Int) (r1 : Int), v = (Value.tuple #[(vi r0), (vi r1)]) ∧ Fo = [] ∧ K r0 r1 H') noQE
def a2M (x0 : a7) (H : Hp) (K : Int → Bool → Hp → Prop) : Prop :=
 Ct Tryd.prog 64 [(Value.agg (b8 x0).toArray)] H [] (fun v H' Fo => ∃ (r0 : Int) (r1 : Bool), v = (Value.tuple #[(vi r0), (Value.bool r1)]) ∧ Fo = [] ∧ K r0 r1 H') noQE
def a2l (x0 : a7) (H : Hp) (K : a7 → Hp → Prop) : Prop :=
 Ct Tryd.prog 38 [(Value.agg (b8 x0).toArray)] H [] (fun v H' Fo => ∃ (r0 : a7), v = (Value.agg (b8 r0).toArray) ∧ Fo = [] ∧ K r0 H') noQE
def a2m (x0 : a7) (H : Hp) (K : a7 → Int → Hp → Prop) : Prop :=
 Ct Tryd.prog 11 [(Value.agg (b8 x0).toArray)] H [] (fun v H' Fo => ∃ (r0 : a7) (r1 : Int), v = (Value.tuple #[(Value.agg (b8 r0).toArray), (vi r1)]) ∧ Fo = [] ∧ K r0 r1 H') noQE
def a6A (x0 : d5) (H : Hp) (K : Int → Hp → Prop) : Prop :=
 Ct Tryd.prog 41 [(Value.agg (d6 x0).toArray)] H [] (fun v H' Fo => ∃ (r0 : Int), v = (vi r0) ∧ Fo = [] ∧ K r0 H') noQE
def D5 (x0 : Sl) (H : Hp) (K : Sl → Hp → Prop) : Prop :=
 Ct Tryd.prog 73 [(vs x0), (Value.func (.func 42) #[] #[])] H [] (fun v H' Fo => ∃ (r0 : Sl), v = (vs r0) ∧ Fo = [] ∧ K r0 H') noQE
def a4V (H : Hp) (K : Hp → Prop) : Prop :=
 Ct Tryd.prog 110 [] H [] (fun v H' Fo => v = (Value.agg #[(Value.func (.func 123) #[] #[]), (Value.func (.func 124) #[] #[]), (Value.func (.func 125) #[] #[]), (Value.func (.func 126) #[] #[]), (Value.func (.func 127) #[] #[]), (Value.func (.func 128) #[] #[]), (Value.func (.func 129) #[] #[])]) ∧ Fo = [] ∧ K H') noQE
def b8z (x0 : Int) (x1 : Int) (H : Hp) (K : Bool → Hp → Prop) : Prop :=
 Ct Tryd.prog 123 [(vi x0), (vi x1)] H [] (fun v H' Fo => ∃ (r0 : Bool), v = (Value.bool r0) ∧ Fo = [] ∧ K r0 H') noQE
def a7l (x0 : Int) (x1 : Int) (H : Hp) (K : Bool → Hp → Prop) : Prop :=
 Ct Tryd.prog 124 [(vi x0), (vi x1)] H [] (fun v H' Fo => ∃ (r0 : Bool), v = (Value.bool r0) ∧ Fo = [] ∧ K r0 H') noQE
def a7m (x0 : Int) (x1 : Int) (H : Hp) (K : Bool → Hp → Prop) : Prop :=
 Ct Tryd.prog 125 [(vi x0), (vi x1)] H [] (fun v H' Fo => ∃ (r0 : Bool), v = (Value.bool r0) ∧ Fo = [] ∧ K r0 H') noQE
def a7n (x0 : Int) (x1 : Int) (H : Hp) (K : Bool → Hp → Prop) : Prop :=
 Ct Tryd.prog 126 [(vi x0), (vi x1)] H [] (fun v H' Fo => ∃ (r0 : Bool), v = (Value.bool r0) ∧ Fo = [] ∧ K r0 H') noQE
def a7o (x0 : Int) (x1 : Int) (H : Hp) (K : Bool → Hp → Prop) : Prop :=
 Ct Tryd.prog 127 [(vi x0), (vi x1)] H [] (fun v H' Fo => ∃ (r0 : Bool), v = (Value.bool r0) ∧ Fo = [] ∧ K r0 H') noQE
def a7p (x0 : Int) (x1 : Int) (H : Hp) (K : Bool → Hp → Prop) : Prop :=
 Ct Tryd.prog 128 [(vi x0), (vi x1)] H [] (fun v H' Fo => ∃ (r0 : Bool), v = (Value.bool r0) ∧ Fo = [] ∧ K r0 H') noQE
def a7q (x0 : Int) (x1 : Int) (H : Hp) (K : Bool → Hp → Prop) : Prop :=
 Ct Tryd.prog 129 [(vi x0), (vi x1)] H [] (fun v H' Fo => ∃ (r0 : Bool), v = (Value.bool r0) ∧ Fo = [] ∧ K r0 H') noQE
def a7X (x0 : Int) (x1 : Int) (x2 : Int) (H : Hp) (K : Bool → Hp → Prop) : Prop :=
 Ct Tryd.prog 75 [(vi x0), (vi x1), (vi x2)] H [] (fun v H' Fo => ∃ (r0 : Bool), v = (Value.bool r0) ∧ Fo = [] ∧ K r0 H') noQE
def a1W (x0 : Bool) (H : Hp) (K : d5 → Hp → Prop) : Prop :=
 Ct Tryd.prog 74 [(Value.bool x0)] H [] (fun v H' Fo => ∃ (r0 : d5), v = (Value.agg (d6 r0).toArray) ∧ Fo = [] ∧ K r0 H') noQE
def a0Z (x0 : d5) (x1 : Int) (x2 : Int) (H : Hp) (K : d5 → Hp → Prop) : Prop :=
 Ct Tryd.prog 76 [(Value.agg (d6 x0).toArray), (vi x1), (vi x2)] H [] (fun v H' Fo => ∃ (r0 : d5), v = (Value.agg (d6 r0).toArray) ∧ Fo = [] ∧ K r0 H') noQE
def a2o (x0 : d5) (H : Hp) (K : d5 → Hp → Prop) : Prop :=
 Ct Tryd.prog 42 [(Value.agg (d6 x0).toArray)] H [] (fun v H' Fo => ∃ (r0 : d5), v = (Value.agg (d6 r0).toArray) ∧ Fo = [] ∧ K r0 H') noQE
def a0d (x0 : d5) (H : Hp) (K : d5 → Int → Hp → Prop) : Prop :=
 Ct Tryd.prog 13 [(Value.agg (d6 x0).toArray)] H [] (fun v H' Fo => ∃ (r0 : d5) (r1 : Int), v = (Value.tuple #[(Value.agg (d6 r0).toArray), (vi r1)]) ∧ Fo = [] ∧ K r0 r1 H') noQE
def a2y (H : Hp) (K : Bool → Hp → Prop) : Prop :=
 Ct Tryd.prog 10 [] H [] (fun v H' Fo => ∃ (r0 : Bool), v = (Value.bool r0) ∧ Fo = [] ∧ K r0 H') noQE
def S6 (x0 : g6) (x1 : Int) (H : Hp) (K : Bool → g6 → Hp → Prop) : Prop :=
 ∀ (g0 : Nat), Ct Tryd.prog 102 [(Value.pointer (some ⟨g0, 0, none⟩)), (vi x1)] H [bx g0 130 (o6 x0)] (fun v H' Fo => ∃ (r0 : Bool) (y0 : g6), v = (Value.bool r0) ∧ Fo = [bx g0 130 (o6 y0)] ∧ K r0 y0 H') noQE
def M0 (x0 : g6) (x1 : a7) (x2 : Int) (H : Hp) (K : g6 → Hp → Prop) : Prop :=
 ∀ (g0 : Nat), Ct Tryd.prog 66 [(Value.pointer (some ⟨g0, 0, none⟩)), (Value.agg (b8 x1).toArray), (vi x2)] H [bx g0 130 (o6 x0)] (fun v H' Fo => ∃ (y0 : g6), v = (Value.tuple #[]) ∧ Fo = [bx g0 130 (o6 y0)] ∧ K y0 H') noQE
def a3q (x0 : ByteArray) (x1 : Int) (H : Hp) (K : Int → Int → Bool → Hp → Prop) : Prop :=
 Ct Tryd.prog 144 [(Value.string x0), (vi x1)] H [] (fun v H' Fo => ∃ (r0 : Int) (r1 : Int) (r2 : Bool), v = (Value.tuple #[(vi r0), (vi r1), (Value.bool r2)]) ∧ Fo = [] ∧ K r0 r1 r2 H') noQE
def q7 (x0 : Int) (x1 : Int) (x2 : Int) (H : Hp) (K : Bool → Hp → Prop) : Prop :=
 Ct Tryd.prog 152 [(vi x0), (vi x1), (vi x2)] H [] (fun v H' Fo => ∃ (r0 : Bool), v = (Value.bool r0) ∧ Fo = [] ∧ K r0 H') noQE
def a2N (x0 : Int) (H : Hp) (K : Int → Hp → Prop) : Prop :=
 Ct Tryd.prog 145 [(vi x0)] H [] (fun v H' Fo => ∃ (r0 : Int), v = (vi r0) ∧ Fo = [] ∧ K r0 H') noQE
def a3r (x0 : ByteArray) (H : Hp) (K : Bool → Hp → Prop) : Prop :=
 Ct Tryd.prog 143 [(Value.string x0)] H [] (fun v H' Fo => ∃ (r0 : Bool), v = (Value.bool r0) ∧ Fo = [] ∧ K r0 H') noQE
def a0C (x0 : ByteArray) (H : Hp) (K : Bool → Hp → Prop) : Prop :=
 Ct Tryd.prog 121 [(Value.string x0)] H [] (fun v H' Fo => ∃ (r0 : Bool), v = (Value.bool r0) ∧ Fo = [] ∧ K r0 H') noQE
def a0W (x0 : f2) (x1 : ByteArray) (x2 : Bool) (H : Hp) (K : f2 → Hp → Prop) : Prop :=
 ∀ (g0 : Nat), Ct Tryd.prog 103 [(Value.pointer (some ⟨g0, 0, none⟩)), (Value.string x1), (Value.bool x2)] H [bx g0 133 (k7 x0)] (fun v H' Fo => ∃ (y0 : f2), v = (Value.tuple #[]) ∧ Fo = [bx g0 133 (k7 y0)] ∧ K y0 H') noQE
def M1 (x0 : f2) (x1 : a7) (H : Hp) (K : f2 → Hp → Prop) : Prop :=
 ∀ (g0 : Nat), Ct Tryd.prog 67 [(Value.pointer (some ⟨g0, 0, none⟩)), (Value.agg (b8 x1).toArray)] H [bx g0 133 (k7 x0)] (fun v H' Fo => ∃ (y0 : f2), v = (Value.tuple #[]) ∧ Fo = [bx g0 133 (k7 y0)] ∧ K y0 H') noQE
def S7 (x0 : f2) (H : Hp) (K : Int → Hp → Prop) : Prop :=
 Ct Tryd.prog 68 [(Value.agg (k7 x0).toArray)] H [] (fun v H' Fo => ∃ (r0 : Int), v = (vi r0) ∧ Fo = [] ∧ K r0 H') noQE
def a3s (x0 : a7) (H : Hp) (K : Int → Hp → Prop) : Prop :=
 Ct Tryd.prog 39 [(Value.agg (b8 x0).toArray)] H [] (fun v H' Fo => ∃ (r0 : Int), v = (vi r0) ∧ Fo = [] ∧ K r0 H') noQE
def B2 (x0 : a7) (H : Hp) (K : Int → Bool → Hp → Prop) : Prop :=
 Ct Tryd.prog 69 [(Value.agg (b8 x0).toArray)] H [] (fun v H' Fo => ∃ (r0 : Int) (r1 : Bool), v = (Value.tuple #[(vi r0), (Value.bool r1)]) ∧ Fo = [] ∧ K r0 r1 H') noQE
def p7 (x0 : a7) (x1 : Int) (H : Hp) (K : Bool → Hp → Prop) : Prop :=
 Ct Tryd.prog 72 [(Value.agg (b8 x0).toArray), (vi x1)] H [] (fun v H' Fo => ∃ (r0 : Bool), v = (Value.bool r0) ∧ Fo = [] ∧ K r0 H') noQE
def W2 (x0 : Int) (H : Hp) (K : Int → Int → Hp → Prop) : Prop :=
 Ct Tryd.prog 104 [(vi x0)] H [] (fun v H' Fo => ∃ (r0 : Int) (r1 : Int), v = (Value.tuple #[(vi r0), (vi r1)]) ∧ Fo = [] ∧ K r0 r1 H') noQE
def a3P (x0 : Int) (x1 : Int) (H : Hp) (K : Int → Int → Hp → Prop) : Prop :=
 Ct Tryd.prog 105 [(vi x0), (vi x1)] H [] (fun v H' Fo => ∃ (r0 : Int) (r1 : Int), v = (Value.tuple #[(vi r0), (vi r1)]) ∧ Fo = [] ∧ K r0 r1 H') noQE
def a3Q (x0 : Int) (x1 : Int) (H : Hp) (K : Int → Int → Hp → Prop) : Prop :=
 Ct Tryd.prog 106 [(vi x0), (vi x1)] H [] (fun v H' Fo => ∃ (r0 : Int) (r1 : Int), v = (Value.tuple #[(vi r0), (vi r1)]) ∧ Fo = [] ∧ K r0 r1 H') noQE
def a3R (x0 : Int) (x1 : Int) (H : Hp) (K : Int → Int → Hp → Prop) : Prop :=
 Ct Tryd.prog 107 [(vi x0), (vi x1)] H [] (fun v H' Fo => ∃ (r0 : Int) (r1 : Int), v = (Value.tuple #[(vi r0), (vi r1)]) ∧ Fo = [] ∧ K r0 r1 H') noQE
def W6 (x0 : Int) (x1 : Int) (H : Hp) (K : Int → Hp → Prop) : Prop :=
 Ct Tryd.prog 122 [(vi x0), (vi x1)] H [] (fun v H' Fo => ∃ (r0 : Int), v = (vi r0) ∧ Fo = [] ∧ K r0 H') noQE
def a3S (x0 : Int) (x1 : Int) (H : Hp) (K : Int → Int → Hp → Prop) : Prop :=
 Ct Tryd.prog 108 [(vi x0), (vi x1)] H [] (fun v H' Fo => ∃ (r0 : Int) (r1 : Int), v = (Value.tuple #[(vi r0), (vi r1)]) ∧ Fo = [] ∧ K r0 r1 H') noQE
def a3T (x0 : Int) (x1 : Int) (H : Hp) (K : Int → Int → Hp → Prop) : Prop :=
 Ct Tryd.prog 109 [(vi x0), (vi x1)] H [] (fun v H' Fo => ∃ (r0 : Int) (r1 : Int), v = (Value.tuple #[(vi r0), (vi r1)]) ∧ Fo = [] ∧ K r0 r1 H') noQE
def a4A (x0 : Int) (x1 : Int) (x2 : Int) (H : Hp) (K : Int → Int → Hp → Prop) : Prop :=
 Ct Tryd.prog 71 [(vi x0), (vi x1), (vi x2)] H [] (fun v H' Fo => ∃ (r0 : Int) (r1 : Int), v = (Value.tuple #[(vi r0), (vi r1)]) ∧ Fo = [] ∧ K r0 r1 H') noQE
def Y2 (x0 : Int) (H : Hp) (K : a7 → Hp → Prop) : Prop :=
 Ct Tryd.prog 70 [(vi x0)] H [] (fun v H' Fo => ∃ (r0 : a7), v = (Value.agg (b8 r0).toArray) ∧ Fo = [] ∧ K r0 H') noQE
def R8 (x0 : a7) (H : Hp) (K : a7 → Hp → Prop) : Prop :=
 Ct Tryd.prog 40 [(Value.agg (b8 x0).toArray)] H [] (fun v H' Fo => ∃ (r0 : a7), v = (Value.agg (b8 r0).toArray) ∧ Fo = [] ∧ K r0 H') noQE
def a2O (x0 : a7) (H : Hp) (K : a7 → Int → Hp → Prop) : Prop :=
 Ct Tryd.prog 12 [(Value.agg (b8 x0).toArray)] H [] (fun v H' Fo => ∃ (r0 : a7) (r1 : Int), v = (Value.tuple #[(Value.agg (b8 r0).toArray), (vi r1)]) ∧ Fo = [] ∧ K r0 r1 H') noQE
def S8 (x0 : g6) (x1 : d5) (x2 : Int) (H : Hp) (K : g6 → Hp → Prop) : Prop :=
 ∀ (g0 : Nat), Ct Tryd.prog 77 [(Value.pointer (some ⟨g0, 0, none⟩)), (Value.agg (d6 x1).toArray), (vi x2)] H [bx g0 130 (o6 x0)] (fun v H' Fo => ∃ (y0 : g6), v = (Value.tuple #[]) ∧ Fo = [bx g0 130 (o6 y0)] ∧ K y0 H') noQE
def S9 (x0 : f2) (x1 : d5) (H : Hp) (K : f2 → Hp → Prop) : Prop :=
 ∀ (g0 : Nat), Ct Tryd.prog 78 [(Value.pointer (some ⟨g0, 0, none⟩)), (Value.agg (d6 x1).toArray)] H [bx g0 133 (k7 x0)] (fun v H' Fo => ∃ (y0 : f2), v = (Value.tuple #[]) ∧ Fo = [bx g0 133 (k7 y0)] ∧ K y0 H') noQE
def a3t (x0 : d5) (H : Hp) (K : Int → Hp → Prop) : Prop :=
 Ct Tryd.prog 43 [(Value.agg (d6 x0).toArray)] H [] (fun v H' Fo => ∃ (r0 : Int), v = (vi r0) ∧ Fo = [] ∧ K r0 H') noQE
def a3U (x0 : Int) (x1 : Int) (x2 : Int) (H : Hp) (K : Bool → Hp → Prop) : Prop :=
 Ct Tryd.prog 80 [(vi x0), (vi x1), (vi x2)] H [] (fun v H' Fo => ∃ (r0 : Bool), v = (Value.bool r0) ∧ Fo = [] ∧ K r0 H') noQE
def Y3 (x0 : Bool) (H : Hp) (K : d5 → Hp → Prop) : Prop :=
 Ct Tryd.prog 79 [(Value.bool x0)] H [] (fun v H' Fo => ∃ (r0 : d5), v = (Value.agg (d6 r0).toArray) ∧ Fo = [] ∧ K r0 H') noQE
def a0f (x0 : d5) (H : Hp) (K : d5 → Hp → Prop) : Prop :=
 Ct Tryd.prog 44 [(Value.agg (d6 x0).toArray)] H [] (fun v H' Fo => ∃ (r0 : d5), v = (Value.agg (d6 r0).toArray) ∧ Fo = [] ∧ K r0 H') noQE
def a0g (x0 : d5) (H : Hp) (K : d5 → Int → Hp → Prop) : Prop :=
 Ct Tryd.prog 14 [(Value.agg (d6 x0).toArray)] H [] (fun v H' Fo => ∃ (r0 : d5) (r1 : Int), v = (Value.tuple #[(Value.agg (d6 r0).toArray), (vi r1)]) ∧ Fo = [] ∧ K r0 r1 H') noQE
def E4 (x0 : a7) (x1 : a7) (H : Hp) (K : Bool → Hp → Prop) : Prop :=
 Ct Tryd.prog 15 [(Value.agg (b8 x0).toArray), (Value.agg (b8 x1).toArray)] H [] (fun v H' Fo => ∃ (r0 : Bool), v = (Value.bool r0) ∧ Fo = [] ∧ K r0 H') noQE
def C5 (x0 : d5) (x1 : d5) (H : Hp) (K : Bool → Hp → Prop) : Prop :=
 Ct Tryd.prog 16 [(Value.agg (d6 x0).toArray), (Value.agg (d6 x1).toArray)] H [] (fun v H' Fo => ∃ (r0 : Bool), v = (Value.bool r0) ∧ Fo = [] ∧ K r0 H') noQE
def X5 (x0 : a7) (x1 : d5) (H : Hp) (K : Bool → Hp → Prop) : Prop :=
 Ct Tryd.prog 3 [(Value.agg (b8 x0).toArray), (Value.agg (d6 x1).toArray)] H [] (fun v H' Fo => ∃ (r0 : Bool), v = (Value.bool r0) ∧ Fo = [] ∧ K r0 H') noQE
def a8P (x0 : R5) (H : Hp) (K : f6 → Hp → Prop) : Prop :=
 Ct Tryd.prog 91 [(Value.agg (v6 x0).toArray)] H [] (fun v H' Fo => ∃ (r0 : f6), v = (A6 r0) ∧ Fo = [] ∧ K r0 H') noQE
def z6 (x0 : Sl) (H : Hp) (K : Sl → Hp → Prop) : Prop :=
 Ct Tryd.prog 90 [(vs x0), (Value.func (.func 91) #[] #[])] H [] (fun v H' Fo => ∃ (r0 : Sl), v = (vs r0) ∧ Fo = [] ∧ K r0 H') noQE
def N7 (x1 : Int) (H : Hp) (K : (List f6) → Hp → Prop) : Prop :=
 Ct Tryd.prog 117 [(Value.slice none 0 0), (vi x1)] H [] (fun v H' Fo => ∃ (r0 : (List f6)) (sr0 : Sl) (Fr0 : Frag), v = (vs sr0) ∧ Fo = [Fr0] ∧ RowL 152 1 p9 sr0 r0 Fr0 ∧ K r0 H') noQE
def D1 (x0 : Sl) (H : Hp) (K : Sl → Hp → Prop) : Prop :=
 Ct Tryd.prog 87 [(vs x0)] H [] (fun v H' Fo => ∃ (r0 : Sl), v = (vs r0) ∧ Fo = [] ∧ K r0 H') noQE
def a3V (x0 : C8) (H : Hp) (K : Bool → Hp → Prop) : Prop :=
 Ct Tryd.prog 169 [(Value.agg (b8 x0.m3).toArray)] H [] (fun v H' Fo => ∃ (r0 : Bool), v = (Value.bool r0) ∧ Fo = [] ∧ K r0 H') noQE
def a8Q (x0 : a7) (H : Hp) (K : f6 → Hp → Prop) : Prop :=
 Ct Tryd.prog 172 [(Value.agg (b8 x0).toArray)] H [] (fun v H' Fo => ∃ (r0 : f6), v = (A6 r0) ∧ Fo = [] ∧ K r0 H') noQE
def t8 (x0 : Sl) (H : Hp) (K : Sl → Hp → Prop) : Prop :=
 Ct Tryd.prog 171 [(vs x0), (Value.func (.func 172) #[] #[])] H [] (fun v H' Fo => ∃ (r0 : Sl), v = (vs r0) ∧ Fo = [] ∧ K r0 H') noQE
def a6B (x0 : C8) (H : Hp) (K : Sl → Hp → Prop) : Prop :=
 Ct Tryd.prog 170 [(Value.agg (b8 x0.m3).toArray)] H [] (fun v H' Fo => ∃ (r0 : Sl), v = (vs r0) ∧ Fo = [] ∧ K r0 H') noQE
def a3W (x0 : G3) (H : Hp) (K : Bool → Hp → Prop) : Prop :=
 Ct Tryd.prog 173 [(Value.agg (d6 x0.l7).toArray)] H [] (fun v H' Fo => ∃ (r0 : Bool), v = (Value.bool r0) ∧ Fo = [] ∧ K r0 H') noQE
def a8R (x0 : d5) (H : Hp) (K : f6 → Hp → Prop) : Prop :=
 Ct Tryd.prog 176 [(Value.agg (d6 x0).toArray)] H [] (fun v H' Fo => ∃ (r0 : f6), v = (A6 r0) ∧ Fo = [] ∧ K r0 H') noQE
def z7 (x0 : Sl) (H : Hp) (K : Sl → Hp → Prop) : Prop :=
 Ct Tryd.prog 175 [(vs x0), (Value.func (.func 176) #[] #[])] H [] (fun v H' Fo => ∃ (r0 : Sl), v = (vs r0) ∧ Fo = [] ∧ K r0 H') noQE
def a6C (x0 : G3) (H : Hp) (K : Sl → Hp → Prop) : Prop :=
 Ct Tryd.prog 174 [(Value.agg (d6 x0.l7).toArray)] H [] (fun v H' Fo => ∃ (r0 : Sl), v = (vs r0) ∧ Fo = [] ∧ K r0 H') noQE
def a7r (x0 : a0z) (H : Hp) (K : Bool → Hp → Prop) : Prop :=
 Ct Tryd.prog 177 [(Value.agg (a1R x0.O0).toArray)] H [] (fun v H' Fo => ∃ (r0 : Bool), v = (Value.bool r0) ∧ Fo = [] ∧ K r0 H') noQE
def a6D (x0 : a0z) (H : Hp) (K : Sl → Hp → Prop) : Prop :=
 Ct Tryd.prog 178 [(Value.agg (a1R x0.O0).toArray)] H [] (fun v H' Fo => ∃ (r0 : Sl), v = (vs r0) ∧ Fo = [] ∧ K r0 H') noQE
def a3X (x0 : K4) (H : Hp) (K : Bool → Hp → Prop) : Prop :=
 Ct Tryd.prog 179 [(Value.agg (v6 x0.f7).toArray)] H [] (fun v H' Fo => ∃ (r0 : Bool), v = (Value.bool r0) ∧ Fo = [] ∧ K r0 H') noQE
def a6E (x0 : K4) (H : Hp) (K : Sl → Hp → Prop) : Prop :=
 Ct Tryd.prog 180 [(Value.agg (v6 x0.f7).toArray)] H [] (fun v H' Fo => ∃ (r0 : Sl), v = (vs r0) ∧ Fo = [] ∧ K r0 H') noQE
def a5q (x : f6) (H : Hp) (K : Bool → Hp → Prop) : Prop := match x with
 | .nil => False
 | .B0 y => a3V y H K
 | .E9 y => a3W y H K
 | .U3 y => a7r y H K
 | .F0 y => a3X y H K
def a4W (x : f6) (H : Hp) (K : Sl → Hp → Prop) : Prop := match x with
 | .nil => False
 | .B0 y => a6B y H K
 | .E9 y => a6C y H K
 | .U3 y => a6D y H K
 | .F0 y => a6E y H K
theorem b5y {E : Pan} {w0 w : World} {ps : Nat → Prop} {H0 H : Hp} {Fr : List Frag} {K : Value → World → Prop} {Kc : Bool → Hp → Prop} {x : f6} (I : Inv w0 ps H0 H Fr w) (h : a5q x H Kc) (hq : ∀ (r0 : Bool) (H' : Hp) (w' : World), Inv w0 ps H0 H' Fr w' → Hle H H' → (∀ i, i < w.heap.size → ¬ inF [] i → w'.heap[i]? = w.heap[i]?) → Kc r0 H' → K (Value.bool r0) w') : opK Tryd.prog E (xInvoke (A6 x) "gnomon/tree.form" []) w K := by
 cases x with
 | nil => exact h.elim
 | B0 y => exact a5d (f := 169) (args := [(Value.agg (b8 y.m3).toArray)].toArray) (by kernel_rfl) (i6 (Fi := []) I h (fun v H' Fo w' I' l hk hq' => by obtain ⟨r0, rfl, rfl, hK⟩ := hq'; exact hq r0 H' w' I' l hk hK) (fun _ _ _ _ _ q => q.elim))
 | E9 y => exact a5d (f := 173) (args := [(Value.agg (d6 y.l7).toArray)].toArray) (by kernel_rfl) (i6 (Fi := []) I h (fun v H' Fo w' I' l hk hq' => by obtain ⟨r0, rfl, rfl, hK⟩ := hq'; exact hq r0 H' w' I' l hk hK) (fun _ _ _ _ _ q => q.elim))
 | U3 y => exact a5d (f := 177) (args := [(Value.agg (a1R y.O0).toArray)].toArray) (by kernel_rfl) (i6 (Fi := []) I h (fun v H' Fo w' I' l hk hq' => by obtain ⟨r0, rfl, rfl, hK⟩ := hq'; exact hq r0 H' w' I' l hk hK) (fun _ _ _ _ _ q => q.elim))
 | F0 y => exact a5d (f := 179) (args := [(Value.agg (v6 y.f7).toArray)].toArray) (by kernel_rfl) (i6 (Fi := []) I h (fun v H' Fo w' I' l hk hq' => by obtain ⟨r0, rfl, rfl, hK⟩ := hq'; exact hq r0 H' w' I' l hk hK) (fun _ _ _ _ _ q => q.elim))
theorem b4I {E : Pan} {w0 w : World} {ps : Nat → Prop} {H0 H : Hp} {Fr : List Frag} {K : Value → World → Prop} {Kc : Sl → Hp → Prop} {x : f6} (I : Inv w0 ps H0 H Fr w) (h : a4W x H Kc) (hq : ∀ (r0 : Sl) (H' : Hp) (w' : World), Inv w0 ps H0 H' Fr w' → Hle H H' → (∀ i, i < w.heap.size → ¬ inF [] i → w'.heap[i]? = w.heap[i]?) → Kc r0 H' → K (vs r0) w') : opK Tryd.prog E (xInvoke (A6 x) "gnomon/tree.parts" []) w K := by
 cases x with
 | nil => exact h.elim
 | B0 y => exact a5d (f := 170) (args := [(Value.agg (b8 y.m3).toArray)].toArray) (by kernel_rfl) (i6 (Fi := []) I h (fun v H' Fo w' I' l hk hq' => by obtain ⟨r0, rfl, rfl, hK⟩ := hq'; exact hq r0 H' w' I' l hk hK) (fun _ _ _ _ _ q => q.elim))
 | E9 y => exact a5d (f := 174) (args := [(Value.agg (d6 y.l7).toArray)].toArray) (by kernel_rfl) (i6 (Fi := []) I h (fun v H' Fo w' I' l hk hq' => by obtain ⟨r0, rfl, rfl, hK⟩ := hq'; exact hq r0 H' w' I' l hk hK) (fun _ _ _ _ _ q => q.elim))
 | U3 y => exact a5d (f := 178) (args := [(Value.agg (a1R y.O0).toArray)].toArray) (by kernel_rfl) (i6 (Fi := []) I h (fun v H' Fo w' I' l hk hq' => by obtain ⟨r0, rfl, rfl, hK⟩ := hq'; exact hq r0 H' w' I' l hk hK) (fun _ _ _ _ _ q => q.elim))
 | F0 y => exact a5d (f := 180) (args := [(Value.agg (v6 y.f7).toArray)].toArray) (by kernel_rfl) (i6 (Fi := []) I h (fun v H' Fo w' I' l hk hq' => by obtain ⟨r0, rfl, rfl, hK⟩ := hq'; exact hq r0 H' w' I' l hk hK) (fun _ _ _ _ _ q => q.elim))
end Go.Proofs.YtnhkdkcgdcgmdaaDoor
