/- Contracts of the program's functions; printed by lift.py off the code. -/
import Derived.Test.YthldnpmfelniiaaDoorzWU1
import Derived.Test.YthldnpmfelniiaaDoorzWG1a
import Derived.Test.YthldnpmfelniiaaDoorzWG1b
namespace Go.Proofs.YthldnpmfelniiaaDoor
open Go.RowKit
set_option maxRecDepth 100000
set_option maxHeartbeats 2000000
def a8N (x0 : i4) (H : Hp) (K : c7 → Hp → Prop) : Prop :=
 Ct Tryd.prog 96 [(Value.agg (g9 x0).toArray)] H [] (fun v H' Fo => ∃ (r0 : c7), v = (A6 r0) ∧ Fo = [] ∧ K r0 H') noQE
def I0 (x0 : Sl) (H : Hp) (K : Sl → Hp → Prop) : Prop :=
 Ct Tryd.prog 95 [(vs x0), (Value.func (.func 96) #[] #[])] H [] (fun v H' Fo => ∃ (r0 : Sl), v = (vs r0) ∧ Fo = [] ∧ K r0 H') noQE
def a8O (x0 : l9) (H : Hp) (K : c7 → Hp → Prop) : Prop :=
 Ct Tryd.prog 98 [(Value.agg (d8 x0).toArray)] H [] (fun v H' Fo => ∃ (r0 : c7), v = (A6 r0) ∧ Fo = [] ∧ K r0 H') noQE
def v6 (x0 : Sl) (H : Hp) (K : Sl → Hp → Prop) : Prop :=
 Ct Tryd.prog 97 [(vs x0), (Value.func (.func 98) #[] #[])] H [] (fun v H' Fo => ∃ (r0 : Sl), v = (vs r0) ∧ Fo = [] ∧ K r0 H') noQE
def Q8 (x1 : Int) (H : Hp) (K : (List c7) → Hp → Prop) : Prop :=
 Ct Tryd.prog 120 [(Value.slice none 0 0), (vi x1)] H [] (fun v H' Fo => ∃ (r0 : (List c7)) (sr0 : Sl) (Fr0 : Frag), v = (vs sr0) ∧ Fo = [Fr0] ∧ RowL 141 1 q6 sr0 r0 Fr0 ∧ K r0 H') noQE
def B9 (x0 : Sl) (H : Hp) (K : Sl → Hp → Prop) : Prop :=
 Ct Tryd.prog 94 [(vs x0)] H [] (fun v H' Fo => ∃ (r0 : Sl), v = (vs r0) ∧ Fo = [] ∧ K r0 H') noQE
def a2W (x0 : c7) (H : Hp) (K : ByteArray → Bool → Hp → Prop) : Prop :=
 Ct Tryd.prog 114 [(A6 x0)] H [] (fun v H' Fo => ∃ (r0 : ByteArray) (r1 : Bool), v = (Value.tuple #[(Value.string r0), (Value.bool r1)]) ∧ Fo = [] ∧ K r0 r1 H') noQE
def K6 (x0 : Int) (x1 : Int) (x2 : Int) (H : Hp) (K : Bool → Hp → Prop) : Prop :=
 ∀ (g2 : Nat), Ct Tryd.prog 131 [(Value.int .i32 x0), (Value.int .i32 x1), (Value.pointer (some ⟨g2, 0, none⟩))] H [bx g2 21 [(Value.int .i32 x2)]] (fun v H' Fo => ∃ (r0 : Bool), v = (Value.bool r0) ∧ Fo = [bx g2 21 [(Value.int .i32 x2)]] ∧ K r0 H') noQE
def a4r (x0 : Int) (H : Hp) (K : Int → Hp → Prop) : Prop :=
 Ct Tryd.prog 126 [(Value.int .i32 x0)] H [] (fun v H' Fo => ∃ (r0 : Int), v = (vi r0) ∧ Fo = [] ∧ K r0 H') noQE
def a6v (x0 : Int) (H : Hp) (K : Bool → Hp → Prop) : Prop :=
 Ct Tryd.prog 125 [(Value.int .i32 x0)] H [] (fun v H' Fo => ∃ (r0 : Bool), v = (Value.bool r0) ∧ Fo = [] ∧ K r0 H') noQE
def a6o (x0 : ByteArray) (H : Hp) (K : Bool → Hp → Prop) : Prop :=
 Ct Tryd.prog 122 [(Value.string x0)] H [] (fun v H' Fo => ∃ (r0 : Bool), v = (Value.bool r0) ∧ Fo = [] ∧ K r0 H') noQE
def a1k (x0 : ByteArray) (H : Hp) (K : Int → Hp → Prop) : Prop :=
 Ct Tryd.prog 130 [(Value.string x0)] H [] (fun v H' Fo => ∃ (r0 : Int), v = (vi r0) ∧ Fo = [] ∧ K r0 H') noQE
def a5i (x0 : ByteArray) (H : Hp) (K : Bool → Hp → Prop) : Prop :=
 Ct Tryd.prog 123 [(Value.string x0)] H [] (fun v H' Fo => ∃ (r0 : Bool), v = (Value.bool r0) ∧ Fo = [] ∧ K r0 H') noQE
def a3E (x0 : ByteArray) (H : Hp) (K : Bool → Hp → Prop) : Prop :=
 Ct Tryd.prog 124 [(Value.string x0)] H [] (fun v H' Fo => ∃ (r0 : Bool), v = (Value.bool r0) ∧ Fo = [] ∧ K r0 H') noQE
def a5j (x0 : ByteArray) (H : Hp) (K : Bool → Hp → Prop) : Prop :=
 Ct Tryd.prog 115 [(Value.string x0)] H [] (fun v H' Fo => ∃ (r0 : Bool), v = (Value.bool r0) ∧ Fo = [] ∧ K r0 H') noQE
def a2w (x0 : (List ByteArray)) (x1 : ByteArray) (H : Hp) (K : Int → Hp → Prop) : Prop :=
 ∀ (sx0 : Sl) (Fx0 : Frag), RowL 9 1 u7 sx0 x0 Fx0 → Ct Tryd.prog 127 [(vs sx0), (Value.string x1)] H [Fx0] (fun v H' Fo => ∃ (r0 : Int), v = (vi r0) ∧ Fo = [Fx0] ∧ K r0 H') noQE
def M9 (x0 : (List ByteArray)) (x1 : ByteArray) (H : Hp) (K : Bool → Hp → Prop) : Prop :=
 ∀ (sx0 : Sl) (Fx0 : Frag), RowL 9 1 u7 sx0 x0 Fx0 → Ct Tryd.prog 116 [(vs sx0), (Value.string x1)] H [Fx0] (fun v H' Fo => ∃ (r0 : Bool), v = (Value.bool r0) ∧ Fo = [Fx0] ∧ K r0 H') noQE
def a3o (x0 : i5) (a1l : (List ByteArray)) (x1 : c7) (x2 : Int) (H : Hp) (K : Bool → i5 → (List ByteArray) → Hp → Prop) : Prop :=
 ∀ (g0 : Nat), ∀ (a0E : Sl) (a4R : Frag), RowL 9 1 u7 a0E a1l a4R → Ct Tryd.prog 90 [(Value.pointer (some ⟨g0, 0, none⟩)), (A6 x1), (vi x2)] H [bx g0 92 [(vi x0.fnodes), (vi x0.fdepth), (vi x0.fe), (Value.bool x0.fform), (Value.bool x0.fnamed), (vs a0E)], a4R] (fun v H' Fo => ∃ (r0 : Bool) (y0 : i5) (a7V : (List ByteArray)) (a5P : Sl) (a5Q : Frag), v = (Value.bool r0) ∧ Fo = [bx g0 92 [(vi y0.fnodes), (vi y0.fdepth), (vi y0.fe), (Value.bool y0.fform), (Value.bool y0.fnamed), (vs a5P)], a5Q] ∧ RowL 9 1 u7 a5P a7V a5Q ∧ K r0 y0 a7V H') noQE
def a0P (x0 : Sl) (x1 : Int) (x2 : i5) (b2m : (List ByteArray)) (H : Hp) (K : Bool → i5 → (List ByteArray) → Hp → Prop) : Prop :=
 ∀ (g2 g2b g3 : Nat), ∀ (b3H : Sl) (b3I : Frag), RowL 9 1 u7 b3H b2m b3I → Ct Tryd.prog 89 [(vs x0), (vi x1), (Value.pointer (some ⟨g2, 0, none⟩)), (Value.pointer (some ⟨g3, 0, none⟩))] H [bx g2 93 [(Value.pointer (some ⟨g2b, 0, none⟩))], bx g2b 92 [(vi x2.fnodes), (vi x2.fdepth), (vi x2.fe), (Value.bool x2.fform), (Value.bool x2.fnamed), (vs b3H)], b3I, bx g3 139 [(Value.func (.func 89) #[] #[(Value.pointer (some ⟨g2, 0, none⟩)), (Value.pointer (some ⟨g3, 0, none⟩))])]] (fun v H' Fo => ∃ (r0 : Bool) (y0 : i5) (a7V : (List ByteArray)) (a5P : Sl) (a5Q : Frag), v = (Value.bool r0) ∧ Fo = [bx g2 93 [(Value.pointer (some ⟨g2b, 0, none⟩))], bx g2b 92 [(vi y0.fnodes), (vi y0.fdepth), (vi y0.fe), (Value.bool y0.fform), (Value.bool y0.fnamed), (vs a5P)], a5Q, bx g3 139 [(Value.func (.func 89) #[] #[(Value.pointer (some ⟨g2, 0, none⟩)), (Value.pointer (some ⟨g3, 0, none⟩))])]] ∧ RowL 9 1 u7 a5P a7V a5Q ∧ K r0 y0 a7V H') noQE
def a5R (x0 : Sl) (H : Hp) (K : i5 → Hp → Prop) : Prop :=
 Ct Tryd.prog 57 [(vs x0)] H [] (fun v H' Fo => ∃ (r0 : i5) (gr0 : Nat), v = (Value.pointer (some ⟨gr0, 0, none⟩)) ∧ Fo = [bx gr0 92 (a7i r0)] ∧ K r0 H') noQE
def a7x (x0 : i7) (H : Hp) (K : i5 → Hp → Prop) : Prop :=
 Ct Tryd.prog 66 [(Value.agg (d5 x0).toArray)] H [] (fun v H' Fo => ∃ (r0 : i5) (gr0 : Nat), v = (Value.pointer (some ⟨gr0, 0, none⟩)) ∧ Fo = [bx gr0 92 (a7i r0)] ∧ K r0 H') noQE
def a6w (x0 : i7) (H : Hp) (K : Int → Hp → Prop) : Prop :=
 Ct Tryd.prog 27 [(Value.agg (d5 x0).toArray)] H [] (fun v H' Fo => ∃ (r0 : Int), v = (vi r0) ∧ Fo = [] ∧ K r0 H') noQE
def L4 (x0 : b7) (x1 : Int) (H : Hp) (K : Bool → b7 → Hp → Prop) : Prop :=
 ∀ (g0 : Nat), Ct Tryd.prog 91 [(Value.pointer (some ⟨g0, 0, none⟩)), (vi x1)] H [bx g0 99 (d7 x0)] (fun v H' Fo => ∃ (r0 : Bool) (y0 : b7), v = (Value.bool r0) ∧ Fo = [bx g0 99 (d7 y0)] ∧ K r0 y0 H') noQE
def P3 (x0 : b7) (x1 : m7) (x2 : Int) (H : Hp) (K : b7 → Hp → Prop) : Prop :=
 ∀ (g0 : Nat), Ct Tryd.prog 58 [(Value.pointer (some ⟨g0, 0, none⟩)), (Value.agg (f6 x1).toArray), (vi x2)] H [bx g0 99 (d7 x0)] (fun v H' Fo => ∃ (y0 : b7), v = (Value.tuple #[]) ∧ Fo = [bx g0 99 (d7 y0)] ∧ K y0 H') noQE
def W9 (x0 : b7) (x1 : m8) (x2 : Int) (H : Hp) (K : b7 → Hp → Prop) : Prop :=
 ∀ (g0 : Nat), Ct Tryd.prog 61 [(Value.pointer (some ⟨g0, 0, none⟩)), (Value.agg (g7 x1).toArray), (vi x2)] H [bx g0 99 (d7 x0)] (fun v H' Fo => ∃ (y0 : b7), v = (Value.tuple #[]) ∧ Fo = [bx g0 99 (d7 y0)] ∧ K y0 H') noQE
def P4 (x0 : b7) (x1 : l9) (x2 : Int) (H : Hp) (K : b7 → Hp → Prop) : Prop :=
 ∀ (g0 : Nat), Ct Tryd.prog 92 [(Value.pointer (some ⟨g0, 0, none⟩)), (Value.agg (d8 x1).toArray), (vi x2)] H [bx g0 99 (d7 x0)] (fun v H' Fo => ∃ (y0 : b7), v = (Value.tuple #[]) ∧ Fo = [bx g0 99 (d7 y0)] ∧ K y0 H') noQE
def a3p (x0 : i7) (H : Hp) (K : b7 → Hp → Prop) : Prop :=
 Ct Tryd.prog 63 [(Value.agg (d5 x0).toArray)] H [] (fun v H' Fo => ∃ (r0 : b7), v = (Value.agg (d7 r0).toArray) ∧ Fo = [] ∧ K r0 H') noQE
def a4f (x0 : ByteArray) (x1 : Int) (H : Hp) (K : Int → Int → Bool → Hp → Prop) : Prop :=
 Ct Tryd.prog 118 [(Value.string x0), (vi x1)] H [] (fun v H' Fo => ∃ (r0 : Int) (r1 : Int) (r2 : Bool), v = (Value.tuple #[(vi r0), (vi r1), (Value.bool r2)]) ∧ Fo = [] ∧ K r0 r1 r2 H') noQE
def r8 (x0 : Int) (x1 : Int) (x2 : Int) (H : Hp) (K : Bool → Hp → Prop) : Prop :=
 Ct Tryd.prog 128 [(vi x0), (vi x1), (vi x2)] H [] (fun v H' Fo => ∃ (r0 : Bool), v = (Value.bool r0) ∧ Fo = [] ∧ K r0 H') noQE
def a3H (x0 : Int) (H : Hp) (K : Int → Hp → Prop) : Prop :=
 Ct Tryd.prog 119 [(vi x0)] H [] (fun v H' Fo => ∃ (r0 : Int), v = (vi r0) ∧ Fo = [] ∧ K r0 H') noQE
def a4g (x0 : ByteArray) (H : Hp) (K : Bool → Hp → Prop) : Prop :=
 Ct Tryd.prog 117 [(Value.string x0)] H [] (fun v H' Fo => ∃ (r0 : Bool), v = (Value.bool r0) ∧ Fo = [] ∧ K r0 H') noQE
def a1I (x0 : ByteArray) (H : Hp) (K : Bool → Hp → Prop) : Prop :=
 Ct Tryd.prog 93 [(Value.string x0)] H [] (fun v H' Fo => ∃ (r0 : Bool), v = (Value.bool r0) ∧ Fo = [] ∧ K r0 H') noQE
def P5 (x0 : b6) (x1 : ByteArray) (x2 : Bool) (H : Hp) (K : b6 → Hp → Prop) : Prop :=
 ∀ (g0 : Nat), Ct Tryd.prog 64 [(Value.pointer (some ⟨g0, 0, none⟩)), (Value.string x1), (Value.bool x2)] H [bx g0 102 (f8 x0)] (fun v H' Fo => ∃ (y0 : b6), v = (Value.tuple #[]) ∧ Fo = [bx g0 102 (f8 y0)] ∧ K y0 H') noQE
def P6 (x0 : b6) (x1 : m7) (H : Hp) (K : b6 → Hp → Prop) : Prop :=
 ∀ (g0 : Nat), Ct Tryd.prog 59 [(Value.pointer (some ⟨g0, 0, none⟩)), (Value.agg (f6 x1).toArray)] H [bx g0 102 (f8 x0)] (fun v H' Fo => ∃ (y0 : b6), v = (Value.tuple #[]) ∧ Fo = [bx g0 102 (f8 y0)] ∧ K y0 H') noQE
def a2f (x0 : b6) (H : Hp) (K : Int → Hp → Prop) : Prop :=
 Ct Tryd.prog 60 [(Value.agg (f8 x0).toArray)] H [] (fun v H' Fo => ∃ (r0 : Int), v = (vi r0) ∧ Fo = [] ∧ K r0 H') noQE
def X0 (x0 : b6) (x1 : m8) (H : Hp) (K : b6 → Hp → Prop) : Prop :=
 ∀ (g0 : Nat), Ct Tryd.prog 62 [(Value.pointer (some ⟨g0, 0, none⟩)), (Value.agg (g7 x1).toArray)] H [bx g0 102 (f8 x0)] (fun v H' Fo => ∃ (y0 : b6), v = (Value.tuple #[]) ∧ Fo = [bx g0 102 (f8 y0)] ∧ K y0 H') noQE
def P7 (x0 : b6) (x1 : l9) (H : Hp) (K : b6 → Hp → Prop) : Prop :=
 ∀ (g0 : Nat), Ct Tryd.prog 65 [(Value.pointer (some ⟨g0, 0, none⟩)), (Value.agg (d8 x1).toArray)] H [bx g0 102 (f8 x0)] (fun v H' Fo => ∃ (y0 : b6), v = (Value.tuple #[]) ∧ Fo = [bx g0 102 (f8 y0)] ∧ K y0 H') noQE
def a3I (x0 : i7) (H : Hp) (K : Int → Hp → Prop) : Prop :=
 Ct Tryd.prog 23 [(Value.agg (d5 x0).toArray)] H [] (fun v H' Fo => ∃ (r0 : Int), v = (vi r0) ∧ Fo = [] ∧ K r0 H') noQE
def Q3 (x0 : (List b9)) (x1 : m7) (H : Hp) (K : (List b9) → Hp → Prop) : Prop :=
 ∀ (sx0 : Sl) (Fx0 : Frag), RowL 71 2 m0 sx0 x0 Fx0 → Ct Tryd.prog 102 [(vs sx0), (Value.agg (f6 x1).toArray)] H [Fx0] (fun v H' Fo => ∃ (r0 : (List b9)) (sr0 : Sl) (Fr0 : Frag), v = (vs sr0) ∧ Fo = [Fr0] ∧ RowL 71 2 m0 sr0 r0 Fr0 ∧ K r0 H') noQE
def a0f (x0 : (List b9)) (x1 : m8) (H : Hp) (K : (List b9) → Hp → Prop) : Prop :=
 ∀ (sx0 : Sl) (Fx0 : Frag), RowL 71 2 m0 sx0 x0 Fx0 → Ct Tryd.prog 101 [(vs sx0), (Value.agg (g7 x1).toArray)] H [Fx0] (fun v H' Fo => ∃ (r0 : (List b9)) (sr0 : Sl) (Fr0 : Frag), v = (vs sr0) ∧ Fo = [Fr0] ∧ RowL 71 2 m0 sr0 r0 Fr0 ∧ K r0 H') noQE
def Q4 (x0 : (List b9)) (x1 : Sl) (H : Hp) (K : (List b9) → Hp → Prop) : Prop :=
 ∀ (sx0 : Sl) (Fx0 : Frag), RowL 71 2 m0 sx0 x0 Fx0 → Ct Tryd.prog 74 [(vs sx0), (vs x1)] H [Fx0] (fun v H' Fo => ∃ (r0 : (List b9)) (sr0 : Sl) (Fr0 : Frag), v = (vs sr0) ∧ Fo = [Fr0] ∧ RowL 71 2 m0 sr0 r0 Fr0 ∧ K r0 H') noQE
def a4h (x0 : i7) (H : Hp) (K : Sl → Hp → Prop) : Prop :=
 Ct Tryd.prog 37 [(Value.agg (d5 x0).toArray)] H [] (fun v H' Fo => ∃ (r0 : Sl), v = (vs r0) ∧ Fo = [] ∧ K r0 H') noQE
def a3J (x0 : Sl) (x1 : Sl) (H : Hp) (K : Bool → Hp → Prop) : Prop :=
 Ct Tryd.prog 29 [(vs x0), (vs x1)] H [] (fun v H' Fo => ∃ (r0 : Bool), v = (Value.bool r0) ∧ Fo = [] ∧ K r0 H') noQE
def a7I (x0 : Sl) (H : Hp) (K : (Option Nat) → ByteArray → Int → Hp → Prop) : Prop :=
 Ct Tryd.prog 75 [(vs x0)] H [] (fun v H' Fo => ∃ (r0 : (Option Nat)) (r1 : ByteArray) (r2 : Int), v = (Value.tuple #[(Value.map r0), (Value.string r1), (vi r2)]) ∧ Fo = [] ∧ K r0 r1 r2 H') noQE
def W6 (_x0 : h8) (O7 : (List d6)) (x1 : m7) (H : Hp) (K : h8 → (List d6) → Hp → Prop) : Prop :=
 ∀ (g0 : Nat), ∀ (U2 : Sl) (a0F : Frag), RowL 128 2 r7 U2 O7 a0F → Ct Tryd.prog 105 [(Value.pointer (some ⟨g0, 0, none⟩)), (Value.agg (f6 x1).toArray)] H [bx g0 126 [(vs U2)], a0F] (fun v H' Fo => ∃ (y0 : h8) (a4i : (List d6)) (a1J : Sl) (a1K : Frag), v = (Value.tuple #[]) ∧ Fo = [bx g0 126 [(vs a1J)], a1K] ∧ RowL 128 2 r7 a1J a4i a1K ∧ K y0 a4i H') noQE
def a1q (_x0 : h8) (O7 : (List d6)) (x1 : m8) (H : Hp) (K : h8 → (List d6) → Hp → Prop) : Prop :=
 ∀ (g0 : Nat), ∀ (U2 : Sl) (a0F : Frag), RowL 128 2 r7 U2 O7 a0F → Ct Tryd.prog 104 [(Value.pointer (some ⟨g0, 0, none⟩)), (Value.agg (g7 x1).toArray)] H [bx g0 126 [(vs U2)], a0F] (fun v H' Fo => ∃ (y0 : h8) (a4i : (List d6)) (a1J : Sl) (a1K : Frag), v = (Value.tuple #[]) ∧ Fo = [bx g0 126 [(vs a1J)], a1K] ∧ RowL 128 2 r7 a1J a4i a1K ∧ K y0 a4i H') noQE
def U1 (_x0 : h8) (O7 : (List d6)) (x1 : Sl) (H : Hp) (K : h8 → (List d6) → Hp → Prop) : Prop :=
 ∀ (g0 : Nat), ∀ (U2 : Sl) (a0F : Frag), RowL 128 2 r7 U2 O7 a0F → Ct Tryd.prog 76 [(Value.pointer (some ⟨g0, 0, none⟩)), (vs x1)] H [bx g0 126 [(vs U2)], a0F] (fun v H' Fo => ∃ (y0 : h8) (a4i : (List d6)) (a1J : Sl) (a1K : Frag), v = (Value.tuple #[]) ∧ Fo = [bx g0 126 [(vs a1J)], a1K] ∧ RowL 128 2 r7 a1J a4i a1K ∧ K y0 a4i H') noQE
def a4s (x0 : i7) (H : Hp) (K : ByteArray → Int → Hp → Prop) : Prop :=
 Ct Tryd.prog 39 [(Value.agg (d5 x0).toArray)] H [] (fun v H' Fo => ∃ (r0 : ByteArray) (r1 : Int), v = (Value.tuple #[(Value.string r0), (vi r1)]) ∧ Fo = [] ∧ K r0 r1 H') noQE
def a3K (H : Hp) (K : Bool → Hp → Prop) : Prop :=
 Ct Tryd.prog 38 [] H [] (fun v H' Fo => ∃ (r0 : Bool), v = (Value.bool r0) ∧ Fo = [] ∧ K r0 H') noQE
def a1L (x0 : Sl) (x1 : ByteArray) (H : Hp) (K : Int → Hp → Prop) : Prop :=
 Ct Tryd.prog 81 [(vs x0), (Value.string x1)] H [] (fun v H' Fo => ∃ (r0 : Int), v = (vi r0) ∧ Fo = [] ∧ K r0 H') noQE
def a3L (x0 : i7) (H : Hp) (K : ByteArray → Int → Hp → Prop) : Prop :=
 Ct Tryd.prog 44 [(Value.agg (d5 x0).toArray)] H [] (fun v H' Fo => ∃ (r0 : ByteArray) (r1 : Int), v = (Value.tuple #[(Value.string r0), (vi r1)]) ∧ Fo = [] ∧ K r0 r1 H') noQE
def a7W (x0 : i7) (x1 : Int) (H : Hp) (K : Sl → Int → Hp → Prop) : Prop :=
 Ct Tryd.prog 82 [(Value.agg (d5 x0).toArray), (vi x1)] H [] (fun v H' Fo => ∃ (r0 : Sl) (r1 : Int), v = (Value.tuple #[(vs r0), (vi r1)]) ∧ Fo = [] ∧ K r0 r1 H') noQE
def a6S (x0 : i7) (H : Hp) (K : Sl → Int → Hp → Prop) : Prop :=
 Ct Tryd.prog 45 [(Value.agg (d5 x0).toArray)] H [] (fun v H' Fo => ∃ (r0 : Sl) (r1 : Int), v = (Value.tuple #[(vs r0), (vi r1)]) ∧ Fo = [] ∧ K r0 r1 H') noQE
def a5S (x0 : i7) (H : Hp) (K : Sl → Int → Hp → Prop) : Prop :=
 Ct Tryd.prog 46 [(Value.agg (d5 x0).toArray)] H [] (fun v H' Fo => ∃ (r0 : Sl) (r1 : Int), v = (Value.tuple #[(vs r0), (vi r1)]) ∧ Fo = [] ∧ K r0 r1 H') noQE
def a4j (x0 : i7) (H : Hp) (K : Sl → Hp → Prop) : Prop :=
 Ct Tryd.prog 47 [(Value.agg (d5 x0).toArray)] H [] (fun v H' Fo => ∃ (r0 : Sl), v = (vs r0) ∧ Fo = [] ∧ K r0 H') noQE
def a3q (x0 : i7) (H : Hp) (K : Sl → Hp → Prop) : Prop :=
 Ct Tryd.prog 49 [(Value.agg (d5 x0).toArray)] H [] (fun v H' Fo => ∃ (r0 : Sl), v = (vs r0) ∧ Fo = [] ∧ K r0 H') noQE
def a1r (x0 : Sl) (x1 : Sl) (H : Hp) (K : Bool → Hp → Prop) : Prop :=
 Ct Tryd.prog 48 [(vs x0), (vs x1)] H [] (fun v H' Fo => ∃ (r0 : Bool), v = (Value.bool r0) ∧ Fo = [] ∧ K r0 H') noQE
def a2g (x0 : i7) (H : Hp) (K : Bool → Hp → Prop) : Prop :=
 Ct Tryd.prog 12 [(Value.agg (d5 x0).toArray)] H [] (fun v H' Fo => ∃ (r0 : Bool), v = (Value.bool r0) ∧ Fo = [] ∧ K r0 H') noQE
def b0F (x0 : i4) (H : Hp) (K : Int → Hp → Prop) : Prop :=
 Ct Tryd.prog 103 [(Value.agg (g9 x0).toArray)] H [] (fun v H' Fo => ∃ (r0 : Int), v = (vi r0) ∧ Fo = [] ∧ K r0 H') noQE
def a4E (x0 : J5) (H : Hp) (K : Bool → Hp → Prop) : Prop :=
 Ct Tryd.prog 148 [(Value.agg (f6 x0.m9).toArray)] H [] (fun v H' Fo => ∃ (r0 : Bool), v = (Value.bool r0) ∧ Fo = [] ∧ K r0 H') noQE
def a8P (x0 : m7) (H : Hp) (K : c7 → Hp → Prop) : Prop :=
 Ct Tryd.prog 151 [(Value.agg (f6 x0).toArray)] H [] (fun v H' Fo => ∃ (r0 : c7), v = (A6 r0) ∧ Fo = [] ∧ K r0 H') noQE
def v7 (x0 : Sl) (H : Hp) (K : Sl → Hp → Prop) : Prop :=
 Ct Tryd.prog 150 [(vs x0), (Value.func (.func 151) #[] #[])] H [] (fun v H' Fo => ∃ (r0 : Sl), v = (vs r0) ∧ Fo = [] ∧ K r0 H') noQE
def a6T (x0 : J5) (H : Hp) (K : Sl → Hp → Prop) : Prop :=
 Ct Tryd.prog 149 [(Value.agg (f6 x0.m9).toArray)] H [] (fun v H' Fo => ∃ (r0 : Sl), v = (vs r0) ∧ Fo = [] ∧ K r0 H') noQE
def a4F (x0 : N7) (H : Hp) (K : Bool → Hp → Prop) : Prop :=
 Ct Tryd.prog 152 [(Value.agg (g7 x0.m3).toArray)] H [] (fun v H' Fo => ∃ (r0 : Bool), v = (Value.bool r0) ∧ Fo = [] ∧ K r0 H') noQE
def a8Q (x0 : m8) (H : Hp) (K : c7 → Hp → Prop) : Prop :=
 Ct Tryd.prog 155 [(Value.agg (g7 x0).toArray)] H [] (fun v H' Fo => ∃ (r0 : c7), v = (A6 r0) ∧ Fo = [] ∧ K r0 H') noQE
def C4 (x0 : Sl) (H : Hp) (K : Sl → Hp → Prop) : Prop :=
 Ct Tryd.prog 154 [(vs x0), (Value.func (.func 155) #[] #[])] H [] (fun v H' Fo => ∃ (r0 : Sl), v = (vs r0) ∧ Fo = [] ∧ K r0 H') noQE
def a6U (x0 : N7) (H : Hp) (K : Sl → Hp → Prop) : Prop :=
 Ct Tryd.prog 153 [(Value.agg (g7 x0.m3).toArray)] H [] (fun v H' Fo => ∃ (r0 : Sl), v = (vs r0) ∧ Fo = [] ∧ K r0 H') noQE
def a7v (x0 : R1) (H : Hp) (K : Bool → Hp → Prop) : Prop :=
 Ct Tryd.prog 156 [(Value.agg (g9 x0.Q0).toArray)] H [] (fun v H' Fo => ∃ (r0 : Bool), v = (Value.bool r0) ∧ Fo = [] ∧ K r0 H') noQE
def a6V (x0 : R1) (H : Hp) (K : Sl → Hp → Prop) : Prop :=
 Ct Tryd.prog 157 [(Value.agg (g9 x0.Q0).toArray)] H [] (fun v H' Fo => ∃ (r0 : Sl), v = (vs r0) ∧ Fo = [] ∧ K r0 H') noQE
def a4G (x0 : N8) (H : Hp) (K : Bool → Hp → Prop) : Prop :=
 Ct Tryd.prog 158 [(Value.agg (d8 x0.d4).toArray)] H [] (fun v H' Fo => ∃ (r0 : Bool), v = (Value.bool r0) ∧ Fo = [] ∧ K r0 H') noQE
def a6W (x0 : N8) (H : Hp) (K : Sl → Hp → Prop) : Prop :=
 Ct Tryd.prog 159 [(Value.agg (d8 x0.d4).toArray)] H [] (fun v H' Fo => ∃ (r0 : Sl), v = (vs r0) ∧ Fo = [] ∧ K r0 H') noQE
def a5T (x : c7) (H : Hp) (K : Bool → Hp → Prop) : Prop := match x with
 | .nil => False
 | .F0 y => a4E y H K
 | .L6 y => a4F y H K
 | .K7 y => a7v y H K
 | .G4 y => a4G y H K
def a5x (x : c7) (H : Hp) (K : Sl → Hp → Prop) : Prop := match x with
 | .nil => False
 | .F0 y => a6T y H K
 | .L6 y => a6U y H K
 | .K7 y => a6V y H K
 | .G4 y => a6W y H K
theorem b4F {E : Pan} {w0 w : World} {ps : Nat → Prop} {H0 H : Hp} {Fr : List Frag} {K : Value → World → Prop} {Kc : Bool → Hp → Prop} {x : c7} (I : Inv w0 ps H0 H Fr w) (h : a5T x H Kc) (hq : ∀ (r0 : Bool) (H' : Hp) (w' : World), Inv w0 ps H0 H' Fr w' → Hle H H' → (∀ i, i < w.heap.size → ¬ inF [] i → w'.heap[i]? = w.heap[i]?) → Kc r0 H' → K (Value.bool r0) w') : opK Tryd.prog E (xInvoke (A6 x) "gnomon/tree.form" []) w K := by
 cases x with
 | nil => exact h.elim
 | F0 y => exact a5E (f := 148) (args := [(Value.agg (f6 y.m9).toArray)].toArray) (by kernel_rfl) (m2 (Fi := []) I h (fun v H' Fo w' I' l hk hq' => by obtain ⟨r0, rfl, rfl, hK⟩ := hq'; exact hq r0 H' w' I' l hk hK) (fun _ _ _ _ _ q => q.elim))
 | L6 y => exact a5E (f := 152) (args := [(Value.agg (g7 y.m3).toArray)].toArray) (by kernel_rfl) (m2 (Fi := []) I h (fun v H' Fo w' I' l hk hq' => by obtain ⟨r0, rfl, rfl, hK⟩ := hq'; exact hq r0 H' w' I' l hk hK) (fun _ _ _ _ _ q => q.elim))
 | K7 y => exact a5E (f := 156) (args := [(Value.agg (g9 y.Q0).toArray)].toArray) (by kernel_rfl) (m2 (Fi := []) I h (fun v H' Fo w' I' l hk hq' => by obtain ⟨r0, rfl, rfl, hK⟩ := hq'; exact hq r0 H' w' I' l hk hK) (fun _ _ _ _ _ q => q.elim))
 | G4 y => exact a5E (f := 158) (args := [(Value.agg (d8 y.d4).toArray)].toArray) (by kernel_rfl) (m2 (Fi := []) I h (fun v H' Fo w' I' l hk hq' => by obtain ⟨r0, rfl, rfl, hK⟩ := hq'; exact hq r0 H' w' I' l hk hK) (fun _ _ _ _ _ q => q.elim))
theorem b3Z {E : Pan} {w0 w : World} {ps : Nat → Prop} {H0 H : Hp} {Fr : List Frag} {K : Value → World → Prop} {Kc : Sl → Hp → Prop} {x : c7} (I : Inv w0 ps H0 H Fr w) (h : a5x x H Kc) (hq : ∀ (r0 : Sl) (H' : Hp) (w' : World), Inv w0 ps H0 H' Fr w' → Hle H H' → (∀ i, i < w.heap.size → ¬ inF [] i → w'.heap[i]? = w.heap[i]?) → Kc r0 H' → K (vs r0) w') : opK Tryd.prog E (xInvoke (A6 x) "gnomon/tree.parts" []) w K := by
 cases x with
 | nil => exact h.elim
 | F0 y => exact a5E (f := 149) (args := [(Value.agg (f6 y.m9).toArray)].toArray) (by kernel_rfl) (m2 (Fi := []) I h (fun v H' Fo w' I' l hk hq' => by obtain ⟨r0, rfl, rfl, hK⟩ := hq'; exact hq r0 H' w' I' l hk hK) (fun _ _ _ _ _ q => q.elim))
 | L6 y => exact a5E (f := 153) (args := [(Value.agg (g7 y.m3).toArray)].toArray) (by kernel_rfl) (m2 (Fi := []) I h (fun v H' Fo w' I' l hk hq' => by obtain ⟨r0, rfl, rfl, hK⟩ := hq'; exact hq r0 H' w' I' l hk hK) (fun _ _ _ _ _ q => q.elim))
 | K7 y => exact a5E (f := 157) (args := [(Value.agg (g9 y.Q0).toArray)].toArray) (by kernel_rfl) (m2 (Fi := []) I h (fun v H' Fo w' I' l hk hq' => by obtain ⟨r0, rfl, rfl, hK⟩ := hq'; exact hq r0 H' w' I' l hk hK) (fun _ _ _ _ _ q => q.elim))
 | G4 y => exact a5E (f := 159) (args := [(Value.agg (d8 y.d4).toArray)].toArray) (by kernel_rfl) (m2 (Fi := []) I h (fun v H' Fo w' I' l hk hq' => by obtain ⟨r0, rfl, rfl, hK⟩ := hq'; exact hq r0 H' w' I' l hk hK) (fun _ _ _ _ _ q => q.elim))
end Go.Proofs.YthldnpmfelniiaaDoor
