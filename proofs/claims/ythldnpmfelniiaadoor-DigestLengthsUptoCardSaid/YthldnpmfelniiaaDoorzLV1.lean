/- Contracts of the program's functions; printed by lift.py off the code. -/
import Derived.Test.YthldnpmfelniiaaDoorzLU1
import Derived.Test.YthldnpmfelniiaaDoorzLG1a
import Derived.Test.YthldnpmfelniiaaDoorzLG1b
namespace Go.Proofs.YthldnpmfelniiaaDoor
open Go.RowKit
set_option maxRecDepth 100000
set_option maxHeartbeats 2000000
def a2O (x0 : z6) (H : Hp) (K : b4 → Hp → Prop) : Prop :=
 Ct Tryd.prog 96 [(Value.agg (j8 x0).toArray)] H [] (fun v H' Fo => ∃ (r0 : b4), v = (l8 r0) ∧ Fo = [] ∧ K r0 H') noQE
def u5 (x0 : Sl) (H : Hp) (K : Sl → Hp → Prop) : Prop :=
 Ct Tryd.prog 95 [(vs x0), (Value.func (.func 96) #[] #[])] H [] (fun v H' Fo => ∃ (r0 : Sl), v = (vs r0) ∧ Fo = [] ∧ K r0 H') noQE
def a2P (x0 : i8) (H : Hp) (K : b4 → Hp → Prop) : Prop :=
 Ct Tryd.prog 98 [(Value.agg (d5 x0).toArray)] H [] (fun v H' Fo => ∃ (r0 : b4), v = (l8 r0) ∧ Fo = [] ∧ K r0 H') noQE
def k3 (x0 : Sl) (H : Hp) (K : Sl → Hp → Prop) : Prop :=
 Ct Tryd.prog 97 [(vs x0), (Value.func (.func 98) #[] #[])] H [] (fun v H' Fo => ∃ (r0 : Sl), v = (vs r0) ∧ Fo = [] ∧ K r0 H') noQE
def D6 (x1 : Int) (H : Hp) (K : (List b4) → Hp → Prop) : Prop :=
 Ct Tryd.prog 120 [(Value.slice none 0 0), (vi x1)] H [] (fun v H' Fo => ∃ (r0 : (List b4)) (sr0 : Sl) (Fr0 : Frag), v = (vs sr0) ∧ Fo = [Fr0] ∧ RowL 141 1 g9 sr0 r0 Fr0 ∧ K r0 H') noQE
def m9 (x0 : Sl) (H : Hp) (K : Sl → Hp → Prop) : Prop :=
 Ct Tryd.prog 94 [(vs x0)] H [] (fun v H' Fo => ∃ (r0 : Sl), v = (vs r0) ∧ Fo = [] ∧ K r0 H') noQE
def R8 (x0 : b4) (H : Hp) (K : ByteArray → Bool → Hp → Prop) : Prop :=
 Ct Tryd.prog 114 [(l8 x0)] H [] (fun v H' Fo => ∃ (r0 : ByteArray) (r1 : Bool), v = (Value.tuple #[(Value.string r0), (Value.bool r1)]) ∧ Fo = [] ∧ K r0 r1 H') noQE
def w5 (x0 : Int) (x1 : Int) (x2 : Int) (H : Hp) (K : Bool → Hp → Prop) : Prop :=
 ∀ (g2 : Nat), Ct Tryd.prog 131 [(Value.int .i32 x0), (Value.int .i32 x1), (Value.pointer (some ⟨g2, 0, none⟩))] H [bx g2 21 [(Value.int .i32 x2)]] (fun v H' Fo => ∃ (r0 : Bool), v = (Value.bool r0) ∧ Fo = [bx g2 21 [(Value.int .i32 x2)]] ∧ K r0 H') noQE
def V4 (x0 : Int) (H : Hp) (K : Int → Hp → Prop) : Prop :=
 Ct Tryd.prog 126 [(Value.int .i32 x0)] H [] (fun v H' Fo => ∃ (r0 : Int), v = (vi r0) ∧ Fo = [] ∧ K r0 H') noQE
def a0N (x0 : Int) (H : Hp) (K : Bool → Hp → Prop) : Prop :=
 Ct Tryd.prog 125 [(Value.int .i32 x0)] H [] (fun v H' Fo => ∃ (r0 : Bool), v = (Value.bool r0) ∧ Fo = [] ∧ K r0 H') noQE
def a0G (x0 : ByteArray) (H : Hp) (K : Bool → Hp → Prop) : Prop :=
 Ct Tryd.prog 122 [(Value.string x0)] H [] (fun v H' Fo => ∃ (r0 : Bool), v = (Value.bool r0) ∧ Fo = [] ∧ K r0 H') noQE
def L8 (x0 : ByteArray) (H : Hp) (K : Int → Hp → Prop) : Prop :=
 Ct Tryd.prog 130 [(Value.string x0)] H [] (fun v H' Fo => ∃ (r0 : Int), v = (vi r0) ∧ Fo = [] ∧ K r0 H') noQE
def Y6 (x0 : ByteArray) (H : Hp) (K : Bool → Hp → Prop) : Prop :=
 Ct Tryd.prog 123 [(Value.string x0)] H [] (fun v H' Fo => ∃ (r0 : Bool), v = (Value.bool r0) ∧ Fo = [] ∧ K r0 H') noQE
def T1 (x0 : ByteArray) (H : Hp) (K : Bool → Hp → Prop) : Prop :=
 Ct Tryd.prog 124 [(Value.string x0)] H [] (fun v H' Fo => ∃ (r0 : Bool), v = (Value.bool r0) ∧ Fo = [] ∧ K r0 H') noQE
def Y7 (x0 : ByteArray) (H : Hp) (K : Bool → Hp → Prop) : Prop :=
 Ct Tryd.prog 115 [(Value.string x0)] H [] (fun v H' Fo => ∃ (r0 : Bool), v = (Value.bool r0) ∧ Fo = [] ∧ K r0 H') noQE
def Q1 (x0 : (List ByteArray)) (x1 : ByteArray) (H : Hp) (K : Int → Hp → Prop) : Prop :=
 ∀ (sx0 : Sl) (Fx0 : Frag), RowL 9 1 r9 sx0 x0 Fx0 → Ct Tryd.prog 127 [(vs sx0), (Value.string x1)] H [Fx0] (fun v H' Fo => ∃ (r0 : Int), v = (vi r0) ∧ Fo = [Fx0] ∧ K r0 H') noQE
def z7 (x0 : (List ByteArray)) (x1 : ByteArray) (H : Hp) (K : Bool → Hp → Prop) : Prop :=
 ∀ (sx0 : Sl) (Fx0 : Frag), RowL 9 1 r9 sx0 x0 Fx0 → Ct Tryd.prog 116 [(vs sx0), (Value.string x1)] H [Fx0] (fun v H' Fo => ∃ (r0 : Bool), v = (Value.bool r0) ∧ Fo = [Fx0] ∧ K r0 H') noQE
def S9 (x0 : b8) (L9 : (List ByteArray)) (x1 : b4) (x2 : Int) (H : Hp) (K : Bool → b8 → (List ByteArray) → Hp → Prop) : Prop :=
 ∀ (g0 : Nat), ∀ (J7 : Sl) (X5 : Frag), RowL 9 1 r9 J7 L9 X5 → Ct Tryd.prog 90 [(Value.pointer (some ⟨g0, 0, none⟩)), (l8 x1), (vi x2)] H [bx g0 92 [(vi x0.fnodes), (vi x0.fdepth), (vi x0.fe), (Value.bool x0.fform), (Value.bool x0.fnamed), (vs J7)], X5] (fun v H' Fo => ∃ (r0 : Bool) (y0 : b8) (a1Y : (List ByteArray)) (a0o : Sl) (a0p : Frag), v = (Value.bool r0) ∧ Fo = [bx g0 92 [(vi y0.fnodes), (vi y0.fdepth), (vi y0.fe), (Value.bool y0.fform), (Value.bool y0.fnamed), (vs a0o)], a0p] ∧ RowL 9 1 r9 a0o a1Y a0p ∧ K r0 y0 a1Y H') noQE
def K0 (x0 : Sl) (x1 : Int) (x2 : b8) (a4U : (List ByteArray)) (H : Hp) (K : Bool → b8 → (List ByteArray) → Hp → Prop) : Prop :=
 ∀ (g2 g2b g3 : Nat), ∀ (a5I : Sl) (a5J : Frag), RowL 9 1 r9 a5I a4U a5J → Ct Tryd.prog 89 [(vs x0), (vi x1), (Value.pointer (some ⟨g2, 0, none⟩)), (Value.pointer (some ⟨g3, 0, none⟩))] H [bx g2 93 [(Value.pointer (some ⟨g2b, 0, none⟩))], bx g2b 92 [(vi x2.fnodes), (vi x2.fdepth), (vi x2.fe), (Value.bool x2.fform), (Value.bool x2.fnamed), (vs a5I)], a5J, bx g3 139 [(Value.func (.func 89) #[] #[(Value.pointer (some ⟨g2, 0, none⟩)), (Value.pointer (some ⟨g3, 0, none⟩))])]] (fun v H' Fo => ∃ (r0 : Bool) (y0 : b8) (a1Y : (List ByteArray)) (a0o : Sl) (a0p : Frag), v = (Value.bool r0) ∧ Fo = [bx g2 93 [(Value.pointer (some ⟨g2b, 0, none⟩))], bx g2b 92 [(vi y0.fnodes), (vi y0.fdepth), (vi y0.fe), (Value.bool y0.fform), (Value.bool y0.fnamed), (vs a0o)], a0p, bx g3 139 [(Value.func (.func 89) #[] #[(Value.pointer (some ⟨g2, 0, none⟩)), (Value.pointer (some ⟨g3, 0, none⟩))])]] ∧ RowL 9 1 r9 a0o a1Y a0p ∧ K r0 y0 a1Y H') noQE
def a0q (x0 : Sl) (H : Hp) (K : b8 → Hp → Prop) : Prop :=
 Ct Tryd.prog 57 [(vs x0)] H [] (fun v H' Fo => ∃ (r0 : b8) (gr0 : Nat), v = (Value.pointer (some ⟨gr0, 0, none⟩)) ∧ Fo = [bx gr0 92 (a1o r0)] ∧ K r0 H') noQE
def Y8 (x0 : i5) (H : Hp) (K : b8 → Hp → Prop) : Prop :=
 Ct Tryd.prog 66 [(Value.agg (f9 x0).toArray)] H [] (fun v H' Fo => ∃ (r0 : b8) (gr0 : Nat), v = (Value.pointer (some ⟨gr0, 0, none⟩)) ∧ Fo = [bx gr0 92 (a1o r0)] ∧ K r0 H') noQE
def a0O (x0 : i5) (H : Hp) (K : Int → Int → Hp → Prop) : Prop :=
 Ct Tryd.prog 25 [(Value.agg (f9 x0).toArray)] H [] (fun v H' Fo => ∃ (r0 : Int) (r1 : Int), v = (Value.tuple #[(vi r0), (vi r1)]) ∧ Fo = [] ∧ K r0 r1 H') noQE
def a0P (x0 : i5) (H : Hp) (K : Int → Hp → Prop) : Prop :=
 Ct Tryd.prog 27 [(Value.agg (f9 x0).toArray)] H [] (fun v H' Fo => ∃ (r0 : Int), v = (vi r0) ∧ Fo = [] ∧ K r0 H') noQE
def a0H (H : Hp) (K : Bool → Hp → Prop) : Prop :=
 Ct Tryd.prog 21 [] H [] (fun v H' Fo => ∃ (r0 : Bool), v = (Value.bool r0) ∧ Fo = [] ∧ K r0 H') noQE
def a3N (x0 : Sl) (H : Hp) (K : Int → Hp → Prop) : Prop :=
 Ct Tryd.prog 22 [(vs x0)] H [] (fun v H' Fo => ∃ (r0 : Int), v = (Value.int .u64 r0) ∧ Fo = [] ∧ K r0 H') noQE
def D1 (x0 : (List a8)) (x1 : i6) (H : Hp) (K : (List a8) → Hp → Prop) : Prop :=
 ∀ (sx0 : Sl) (Fx0 : Frag), RowL 71 2 d6 sx0 x0 Fx0 → Ct Tryd.prog 102 [(vs sx0), (Value.agg (c5 x1).toArray)] H [Fx0] (fun v H' Fo => ∃ (r0 : (List a8)) (sr0 : Sl) (Fr0 : Frag), v = (vs sr0) ∧ Fo = [Fr0] ∧ RowL 71 2 d6 sr0 r0 Fr0 ∧ K r0 H') noQE
def I0 (x0 : (List a8)) (x1 : i7) (H : Hp) (K : (List a8) → Hp → Prop) : Prop :=
 ∀ (sx0 : Sl) (Fx0 : Frag), RowL 71 2 d6 sx0 x0 Fx0 → Ct Tryd.prog 101 [(vs sx0), (Value.agg (c9 x1).toArray)] H [Fx0] (fun v H' Fo => ∃ (r0 : (List a8)) (sr0 : Sl) (Fr0 : Frag), v = (vs sr0) ∧ Fo = [Fr0] ∧ RowL 71 2 d6 sr0 r0 Fr0 ∧ K r0 H') noQE
def D2 (x0 : (List a8)) (x1 : Sl) (H : Hp) (K : (List a8) → Hp → Prop) : Prop :=
 ∀ (sx0 : Sl) (Fx0 : Frag), RowL 71 2 d6 sx0 x0 Fx0 → Ct Tryd.prog 74 [(vs sx0), (vs x1)] H [Fx0] (fun v H' Fo => ∃ (r0 : (List a8)) (sr0 : Sl) (Fr0 : Frag), v = (vs sr0) ∧ Fo = [Fr0] ∧ RowL 71 2 d6 sr0 r0 Fr0 ∧ K r0 H') noQE
def V0 (x0 : i5) (H : Hp) (K : Sl → Hp → Prop) : Prop :=
 Ct Tryd.prog 37 [(Value.agg (f9 x0).toArray)] H [] (fun v H' Fo => ∃ (r0 : Sl), v = (vs r0) ∧ Fo = [] ∧ K r0 H') noQE
def D8 (x0 : Int) (x1 : Int) (x2 : Int) (x3 : ByteArray) (x4 : X1) (x5 : Sl) (x5_ : (List Int)) (H : Hp) (K : Sl → (List Int) → Hp → Prop) : Prop :=
 ∀ (g5 : Nat), ∀ (sx5_ : Sl) (Fx5_ : Frag), RowL 5 1 i4 sx5_ x5_ Fx5_ → Ct Tryd.prog 68 [(Value.int .u8 x0), (vi x1), (vi x2), (Value.string x3), (Value.agg #[(vi x4.f0), (vi x4.f1), (vi x4.f2), (vi x4.f3)]), (Value.pointer (some ⟨g5, 0, none⟩))] H [bx g5 40 [(vs sx5_)], Fx5_] (fun v H' Fo => ∃ (y0 : Sl) (y0_ : (List Int)) (sy0_ : Sl) (Fy0_ : Frag), v = (Value.tuple #[]) ∧ Fo = [bx g5 40 [(vs sy0_)], Fy0_] ∧ RowL 5 1 i4 sy0_ y0_ Fy0_ ∧ K y0 y0_ H') noQE
def J2 (x0 : i6) (x1000 : Sl) (x1000_ : (List Int)) (H : Hp) (K : Sl → (List Int) → Hp → Prop) : Prop :=
 ∀ (g1 g2 g1000 : Nat), ∀ (sx1000_ : Sl) (Fx1000_ : Frag), RowL 5 1 i4 sx1000_ x1000_ Fx1000_ → Ct Tryd.prog 69 [(Value.agg (c5 x0).toArray), (Value.pointer (some ⟨g1, 0, none⟩)), (Value.pointer (some ⟨g2, 0, none⟩))] H [bx g1 115 [(Value.func (.func 68) #[] #[(Value.pointer (some ⟨g1000, 0, none⟩))])], bx g2 103 [(Value.func (.func 69) #[] #[(Value.pointer (some ⟨g1, 0, none⟩)), (Value.pointer (some ⟨g2, 0, none⟩))])], bx g1000 40 [(vs sx1000_)], Fx1000_] (fun v H' Fo => ∃ (y0 : Sl) (y0_ : (List Int)) (sy0_ : Sl) (Fy0_ : Frag), v = (Value.tuple #[]) ∧ Fo = [bx g1 115 [(Value.func (.func 68) #[] #[(Value.pointer (some ⟨g1000, 0, none⟩))])], bx g2 103 [(Value.func (.func 69) #[] #[(Value.pointer (some ⟨g1, 0, none⟩)), (Value.pointer (some ⟨g2, 0, none⟩))])], bx g1000 40 [(vs sy0_)], Fy0_] ∧ RowL 5 1 i4 sy0_ y0_ Fy0_ ∧ K y0 y0_ H') noQE
def O5 (x0 : i7) (x1000 : Sl) (x1000_ : (List Int)) (H : Hp) (K : Sl → (List Int) → Hp → Prop) : Prop :=
 ∀ (g1 g2 g3 g1000 : Nat), ∀ (sx1000_ : Sl) (Fx1000_ : Frag), RowL 5 1 i4 sx1000_ x1000_ Fx1000_ → Ct Tryd.prog 70 [(Value.agg (c9 x0).toArray), (Value.pointer (some ⟨g1, 0, none⟩)), (Value.pointer (some ⟨g2, 0, none⟩)), (Value.pointer (some ⟨g3, 0, none⟩))] H [bx g1 115 [(Value.func (.func 68) #[] #[(Value.pointer (some ⟨g1000, 0, none⟩))])], bx g2 103 [(Value.func (.func 69) #[] #[(Value.pointer (some ⟨g1, 0, none⟩)), (Value.pointer (some ⟨g2, 0, none⟩))])], bx g3 108 [(Value.func (.func 70) #[] #[(Value.pointer (some ⟨g1, 0, none⟩)), (Value.pointer (some ⟨g2, 0, none⟩)), (Value.pointer (some ⟨g3, 0, none⟩))])], bx g1000 40 [(vs sx1000_)], Fx1000_] (fun v H' Fo => ∃ (y0 : Sl) (y0_ : (List Int)) (sy0_ : Sl) (Fy0_ : Frag), v = (Value.tuple #[]) ∧ Fo = [bx g1 115 [(Value.func (.func 68) #[] #[(Value.pointer (some ⟨g1000, 0, none⟩))])], bx g2 103 [(Value.func (.func 69) #[] #[(Value.pointer (some ⟨g1, 0, none⟩)), (Value.pointer (some ⟨g2, 0, none⟩))])], bx g3 108 [(Value.func (.func 70) #[] #[(Value.pointer (some ⟨g1, 0, none⟩)), (Value.pointer (some ⟨g2, 0, none⟩)), (Value.pointer (some ⟨g3, 0, none⟩))])], bx g1000 40 [(vs sy0_)], Fy0_] ∧ RowL 5 1 i4 sy0_ y0_ Fy0_ ∧ K y0 y0_ H') noQE
def J3 (x0 : Sl) (x1000 : Sl) (x1000_ : (List Int)) (H : Hp) (K : Sl → (List Int) → Hp → Prop) : Prop :=
 ∀ (g1 g2 g3 g4 g1000 : Nat), ∀ (sx1000_ : Sl) (Fx1000_ : Frag), RowL 5 1 i4 sx1000_ x1000_ Fx1000_ → Ct Tryd.prog 71 [(vs x0), (Value.pointer (some ⟨g1, 0, none⟩)), (Value.pointer (some ⟨g2, 0, none⟩)), (Value.pointer (some ⟨g3, 0, none⟩)), (Value.pointer (some ⟨g4, 0, none⟩))] H [bx g1 115 [(Value.func (.func 68) #[] #[(Value.pointer (some ⟨g1000, 0, none⟩))])], bx g2 108 [(Value.func (.func 70) #[] #[(Value.pointer (some ⟨g1, 0, none⟩)), (Value.pointer (some ⟨g3, 0, none⟩)), (Value.pointer (some ⟨g2, 0, none⟩))])], bx g3 103 [(Value.func (.func 69) #[] #[(Value.pointer (some ⟨g1, 0, none⟩)), (Value.pointer (some ⟨g3, 0, none⟩))])], bx g4 116 [(Value.func (.func 71) #[] #[(Value.pointer (some ⟨g1, 0, none⟩)), (Value.pointer (some ⟨g2, 0, none⟩)), (Value.pointer (some ⟨g3, 0, none⟩)), (Value.pointer (some ⟨g4, 0, none⟩))])], bx g1000 40 [(vs sx1000_)], Fx1000_] (fun v H' Fo => ∃ (y0 : Sl) (y0_ : (List Int)) (sy0_ : Sl) (Fy0_ : Frag), v = (Value.tuple #[]) ∧ Fo = [bx g1 115 [(Value.func (.func 68) #[] #[(Value.pointer (some ⟨g1000, 0, none⟩))])], bx g2 108 [(Value.func (.func 70) #[] #[(Value.pointer (some ⟨g1, 0, none⟩)), (Value.pointer (some ⟨g3, 0, none⟩)), (Value.pointer (some ⟨g2, 0, none⟩))])], bx g3 103 [(Value.func (.func 69) #[] #[(Value.pointer (some ⟨g1, 0, none⟩)), (Value.pointer (some ⟨g3, 0, none⟩))])], bx g4 116 [(Value.func (.func 71) #[] #[(Value.pointer (some ⟨g1, 0, none⟩)), (Value.pointer (some ⟨g2, 0, none⟩)), (Value.pointer (some ⟨g3, 0, none⟩)), (Value.pointer (some ⟨g4, 0, none⟩))])], bx g1000 40 [(vs sy0_)], Fy0_] ∧ RowL 5 1 i4 sy0_ y0_ Fy0_ ∧ K y0 y0_ H') noQE
def a0e (x0 : i5) (H : Hp) (K : Sl → Int → Hp → Prop) : Prop :=
 Ct Tryd.prog 31 [(Value.agg (f9 x0).toArray)] H [] (fun v H' Fo => ∃ (r0 : Sl) (r1 : Int), v = (Value.tuple #[(vs r0), (vi r1)]) ∧ Fo = [] ∧ K r0 r1 H') noQE
def J6 (x0 : i5) (H : Hp) (K : Bool → Hp → Prop) : Prop :=
 Ct Tryd.prog 8 [(Value.agg (f9 x0).toArray)] H [] (fun v H' Fo => ∃ (r0 : Bool), v = (Value.bool r0) ∧ Fo = [] ∧ K r0 H') noQE
def W7 (x0 : u7) (H : Hp) (K : Bool → Hp → Prop) : Prop :=
 Ct Tryd.prog 148 [(Value.agg (c5 x0.f4).toArray)] H [] (fun v H' Fo => ∃ (r0 : Bool), v = (Value.bool r0) ∧ Fo = [] ∧ K r0 H') noQE
def a2Q (x0 : i6) (H : Hp) (K : b4 → Hp → Prop) : Prop :=
 Ct Tryd.prog 151 [(Value.agg (c5 x0).toArray)] H [] (fun v H' Fo => ∃ (r0 : b4), v = (l8 r0) ∧ Fo = [] ∧ K r0 H') noQE
def k4 (x0 : Sl) (H : Hp) (K : Sl → Hp → Prop) : Prop :=
 Ct Tryd.prog 150 [(vs x0), (Value.func (.func 151) #[] #[])] H [] (fun v H' Fo => ∃ (r0 : Sl), v = (vs r0) ∧ Fo = [] ∧ K r0 H') noQE
def a0V (x0 : u7) (H : Hp) (K : Sl → Hp → Prop) : Prop :=
 Ct Tryd.prog 149 [(Value.agg (c5 x0.f4).toArray)] H [] (fun v H' Fo => ∃ (r0 : Sl), v = (vs r0) ∧ Fo = [] ∧ K r0 H') noQE
def W8 (x0 : B1) (H : Hp) (K : Bool → Hp → Prop) : Prop :=
 Ct Tryd.prog 152 [(Value.agg (c9 x0.d8).toArray)] H [] (fun v H' Fo => ∃ (r0 : Bool), v = (Value.bool r0) ∧ Fo = [] ∧ K r0 H') noQE
def a2R (x0 : i7) (H : Hp) (K : b4 → Hp → Prop) : Prop :=
 Ct Tryd.prog 155 [(Value.agg (c9 x0).toArray)] H [] (fun v H' Fo => ∃ (r0 : b4), v = (l8 r0) ∧ Fo = [] ∧ K r0 H') noQE
def o2 (x0 : Sl) (H : Hp) (K : Sl → Hp → Prop) : Prop :=
 Ct Tryd.prog 154 [(vs x0), (Value.func (.func 155) #[] #[])] H [] (fun v H' Fo => ∃ (r0 : Sl), v = (vs r0) ∧ Fo = [] ∧ K r0 H') noQE
def a0W (x0 : B1) (H : Hp) (K : Sl → Hp → Prop) : Prop :=
 Ct Tryd.prog 153 [(Value.agg (c9 x0.d8).toArray)] H [] (fun v H' Fo => ∃ (r0 : Sl), v = (vs r0) ∧ Fo = [] ∧ K r0 H') noQE
def a1w (x0 : D9) (H : Hp) (K : Bool → Hp → Prop) : Prop :=
 Ct Tryd.prog 156 [(Value.agg (j8 x0.C7).toArray)] H [] (fun v H' Fo => ∃ (r0 : Bool), v = (Value.bool r0) ∧ Fo = [] ∧ K r0 H') noQE
def a0X (x0 : D9) (H : Hp) (K : Sl → Hp → Prop) : Prop :=
 Ct Tryd.prog 157 [(Value.agg (j8 x0.C7).toArray)] H [] (fun v H' Fo => ∃ (r0 : Sl), v = (vs r0) ∧ Fo = [] ∧ K r0 H') noQE
def W9 (x0 : B2) (H : Hp) (K : Bool → Hp → Prop) : Prop :=
 Ct Tryd.prog 158 [(Value.agg (d5 x0.b5).toArray)] H [] (fun v H' Fo => ∃ (r0 : Bool), v = (Value.bool r0) ∧ Fo = [] ∧ K r0 H') noQE
def a0Y (x0 : B2) (H : Hp) (K : Sl → Hp → Prop) : Prop :=
 Ct Tryd.prog 159 [(Value.agg (d5 x0.b5).toArray)] H [] (fun v H' Fo => ∃ (r0 : Sl), v = (vs r0) ∧ Fo = [] ∧ K r0 H') noQE
def a0r (x : b4) (H : Hp) (K : Bool → Hp → Prop) : Prop := match x with
 | .nil => False
 | .s6 y => W7 y H K
 | .z2 y => W8 y H K
 | .w9 y => a1w y H K
 | .t7 y => W9 y H K
def a0f (x : b4) (H : Hp) (K : Sl → Hp → Prop) : Prop := match x with
 | .nil => False
 | .s6 y => a0V y H K
 | .z2 y => a0W y H K
 | .w9 y => a0X y H K
 | .t7 y => a0Y y H K
theorem a6o {E : Pan} {w0 w : World} {ps : Nat → Prop} {H0 H : Hp} {Fr : List Frag} {K : Value → World → Prop} {Kc : Bool → Hp → Prop} {x : b4} (I : Inv w0 ps H0 H Fr w) (h : a0r x H Kc) (hq : ∀ (r0 : Bool) (H' : Hp) (w' : World), Inv w0 ps H0 H' Fr w' → Hle H H' → (∀ i, i < w.heap.size → ¬ inF [] i → w'.heap[i]? = w.heap[i]?) → Kc r0 H' → K (Value.bool r0) w') : opK Tryd.prog E (xInvoke (l8 x) "gnomon/tree.form" []) w K := by
 cases x with
 | nil => exact h.elim
 | s6 y => exact a0i (f := 148) (args := [(Value.agg (c5 y.f4).toArray)].toArray) (by kernel_rfl) (h9 (Fi := []) I h (fun v H' Fo w' I' l hk hq' => by obtain ⟨r0, rfl, rfl, hK⟩ := hq'; exact hq r0 H' w' I' l hk hK) (fun _ _ _ _ _ q => q.elim))
 | z2 y => exact a0i (f := 152) (args := [(Value.agg (c9 y.d8).toArray)].toArray) (by kernel_rfl) (h9 (Fi := []) I h (fun v H' Fo w' I' l hk hq' => by obtain ⟨r0, rfl, rfl, hK⟩ := hq'; exact hq r0 H' w' I' l hk hK) (fun _ _ _ _ _ q => q.elim))
 | w9 y => exact a0i (f := 156) (args := [(Value.agg (j8 y.C7).toArray)].toArray) (by kernel_rfl) (h9 (Fi := []) I h (fun v H' Fo w' I' l hk hq' => by obtain ⟨r0, rfl, rfl, hK⟩ := hq'; exact hq r0 H' w' I' l hk hK) (fun _ _ _ _ _ q => q.elim))
 | t7 y => exact a0i (f := 158) (args := [(Value.agg (d5 y.b5).toArray)].toArray) (by kernel_rfl) (h9 (Fi := []) I h (fun v H' Fo w' I' l hk hq' => by obtain ⟨r0, rfl, rfl, hK⟩ := hq'; exact hq r0 H' w' I' l hk hK) (fun _ _ _ _ _ q => q.elim))
theorem a6a {E : Pan} {w0 w : World} {ps : Nat → Prop} {H0 H : Hp} {Fr : List Frag} {K : Value → World → Prop} {Kc : Sl → Hp → Prop} {x : b4} (I : Inv w0 ps H0 H Fr w) (h : a0f x H Kc) (hq : ∀ (r0 : Sl) (H' : Hp) (w' : World), Inv w0 ps H0 H' Fr w' → Hle H H' → (∀ i, i < w.heap.size → ¬ inF [] i → w'.heap[i]? = w.heap[i]?) → Kc r0 H' → K (vs r0) w') : opK Tryd.prog E (xInvoke (l8 x) "gnomon/tree.parts" []) w K := by
 cases x with
 | nil => exact h.elim
 | s6 y => exact a0i (f := 149) (args := [(Value.agg (c5 y.f4).toArray)].toArray) (by kernel_rfl) (h9 (Fi := []) I h (fun v H' Fo w' I' l hk hq' => by obtain ⟨r0, rfl, rfl, hK⟩ := hq'; exact hq r0 H' w' I' l hk hK) (fun _ _ _ _ _ q => q.elim))
 | z2 y => exact a0i (f := 153) (args := [(Value.agg (c9 y.d8).toArray)].toArray) (by kernel_rfl) (h9 (Fi := []) I h (fun v H' Fo w' I' l hk hq' => by obtain ⟨r0, rfl, rfl, hK⟩ := hq'; exact hq r0 H' w' I' l hk hK) (fun _ _ _ _ _ q => q.elim))
 | w9 y => exact a0i (f := 157) (args := [(Value.agg (j8 y.C7).toArray)].toArray) (by kernel_rfl) (h9 (Fi := []) I h (fun v H' Fo w' I' l hk hq' => by obtain ⟨r0, rfl, rfl, hK⟩ := hq'; exact hq r0 H' w' I' l hk hK) (fun _ _ _ _ _ q => q.elim))
 | t7 y => exact a0i (f := 159) (args := [(Value.agg (d5 y.b5).toArray)].toArray) (by kernel_rfl) (h9 (Fi := []) I h (fun v H' Fo w' I' l hk hq' => by obtain ⟨r0, rfl, rfl, hK⟩ := hq'; exact hq r0 H' w' I' l hk hK) (fun _ _ _ _ _ q => q.elim))
end Go.Proofs.YthldnpmfelniiaaDoor
