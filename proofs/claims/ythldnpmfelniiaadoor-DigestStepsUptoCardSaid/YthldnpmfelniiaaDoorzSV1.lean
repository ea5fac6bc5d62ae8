/- Contracts of the program's functions; printed by lift.py off the code. -/
import Derived.Test.YthldnpmfelniiaaDoorzSU1
import Derived.Test.YthldnpmfelniiaaDoorzSG1a
import Derived.Test.YthldnpmfelniiaaDoorzSG1b
namespace Go.Proofs.YthldnpmfelniiaaDoor
open Go.RowKit
set_option maxRecDepth 100000
set_option maxHeartbeats 2000000
def a1h (x0 : z6) (H : Hp) (K : b3 → Hp → Prop) : Prop :=
 Ct Tryd.prog 96 [(Value.agg (i5 x0).toArray)] H [] (fun v H' Fo => ∃ (r0 : b3), v = (i8 r0) ∧ Fo = [] ∧ K r0 H') noQE
def r8 (x0 : Sl) (H : Hp) (K : Sl → Hp → Prop) : Prop :=
 Ct Tryd.prog 95 [(vs x0), (Value.func (.func 96) #[] #[])] H [] (fun v H' Fo => ∃ (r0 : Sl), v = (vs r0) ∧ Fo = [] ∧ K r0 H') noQE
def a1i (x0 : o6) (H : Hp) (K : b3 → Hp → Prop) : Prop :=
 Ct Tryd.prog 98 [(Value.agg (f6 x0).toArray)] H [] (fun v H' Fo => ∃ (r0 : b3), v = (i8 r0) ∧ Fo = [] ∧ K r0 H') noQE
def h7 (x0 : Sl) (H : Hp) (K : Sl → Hp → Prop) : Prop :=
 Ct Tryd.prog 97 [(vs x0), (Value.func (.func 98) #[] #[])] H [] (fun v H' Fo => ∃ (r0 : Sl), v = (vs r0) ∧ Fo = [] ∧ K r0 H') noQE
def z7 (x1 : Int) (H : Hp) (K : (List b3) → Hp → Prop) : Prop :=
 Ct Tryd.prog 120 [(Value.slice none 0 0), (vi x1)] H [] (fun v H' Fo => ∃ (r0 : (List b3)) (sr0 : Sl) (Fr0 : Frag), v = (vs sr0) ∧ Fo = [Fr0] ∧ RowL 141 1 g6 sr0 r0 Fr0 ∧ K r0 H') noQE
def k8 (x0 : Sl) (H : Hp) (K : Sl → Hp → Prop) : Prop :=
 Ct Tryd.prog 94 [(vs x0)] H [] (fun v H' Fo => ∃ (r0 : Sl), v = (vs r0) ∧ Fo = [] ∧ K r0 H') noQE
def M0 (x0 : b3) (H : Hp) (K : ByteArray → Bool → Hp → Prop) : Prop :=
 Ct Tryd.prog 114 [(i8 x0)] H [] (fun v H' Fo => ∃ (r0 : ByteArray) (r1 : Bool), v = (Value.tuple #[(Value.string r0), (Value.bool r1)]) ∧ Fo = [] ∧ K r0 r1 H') noQE
def s7 (x0 : Int) (x1 : Int) (x2 : Int) (H : Hp) (K : Bool → Hp → Prop) : Prop :=
 ∀ (g2 : Nat), Ct Tryd.prog 131 [(Value.int .i32 x0), (Value.int .i32 x1), (Value.pointer (some ⟨g2, 0, none⟩))] H [bx g2 21 [(Value.int .i32 x2)]] (fun v H' Fo => ∃ (r0 : Bool), v = (Value.bool r0) ∧ Fo = [bx g2 21 [(Value.int .i32 x2)]] ∧ K r0 H') noQE
def P2 (x0 : Int) (H : Hp) (K : Int → Hp → Prop) : Prop :=
 Ct Tryd.prog 126 [(Value.int .i32 x0)] H [] (fun v H' Fo => ∃ (r0 : Int), v = (vi r0) ∧ Fo = [] ∧ K r0 H') noQE
def W7 (x0 : Int) (H : Hp) (K : Bool → Hp → Prop) : Prop :=
 Ct Tryd.prog 125 [(Value.int .i32 x0)] H [] (fun v H' Fo => ∃ (r0 : Bool), v = (Value.bool r0) ∧ Fo = [] ∧ K r0 H') noQE
def V9 (x0 : ByteArray) (H : Hp) (K : Bool → Hp → Prop) : Prop :=
 Ct Tryd.prog 122 [(Value.string x0)] H [] (fun v H' Fo => ∃ (r0 : Bool), v = (Value.bool r0) ∧ Fo = [] ∧ K r0 H') noQE
def E4 (x0 : ByteArray) (H : Hp) (K : Int → Hp → Prop) : Prop :=
 Ct Tryd.prog 130 [(Value.string x0)] H [] (fun v H' Fo => ∃ (r0 : Int), v = (vi r0) ∧ Fo = [] ∧ K r0 H') noQE
def R7 (x0 : ByteArray) (H : Hp) (K : Bool → Hp → Prop) : Prop :=
 Ct Tryd.prog 123 [(Value.string x0)] H [] (fun v H' Fo => ∃ (r0 : Bool), v = (Value.bool r0) ∧ Fo = [] ∧ K r0 H') noQE
def N1 (x0 : ByteArray) (H : Hp) (K : Bool → Hp → Prop) : Prop :=
 Ct Tryd.prog 124 [(Value.string x0)] H [] (fun v H' Fo => ∃ (r0 : Bool), v = (Value.bool r0) ∧ Fo = [] ∧ K r0 H') noQE
def R8 (x0 : ByteArray) (H : Hp) (K : Bool → Hp → Prop) : Prop :=
 Ct Tryd.prog 115 [(Value.string x0)] H [] (fun v H' Fo => ∃ (r0 : Bool), v = (Value.bool r0) ∧ Fo = [] ∧ K r0 H') noQE
def K6 (x0 : (List ByteArray)) (x1 : ByteArray) (H : Hp) (K : Int → Hp → Prop) : Prop :=
 ∀ (sx0 : Sl) (Fx0 : Frag), RowL 9 1 p5 sx0 x0 Fx0 → Ct Tryd.prog 127 [(vs sx0), (Value.string x1)] H [Fx0] (fun v H' Fo => ∃ (r0 : Int), v = (vi r0) ∧ Fo = [Fx0] ∧ K r0 H') noQE
def u9 (x0 : (List ByteArray)) (x1 : ByteArray) (H : Hp) (K : Bool → Hp → Prop) : Prop :=
 ∀ (sx0 : Sl) (Fx0 : Frag), RowL 9 1 p5 sx0 x0 Fx0 → Ct Tryd.prog 116 [(vs sx0), (Value.string x1)] H [Fx0] (fun v H' Fo => ∃ (r0 : Bool), v = (Value.bool r0) ∧ Fo = [Fx0] ∧ K r0 H') noQE
def M7 (x0 : b6) (E5 : (List ByteArray)) (x1 : b3) (x2 : Int) (H : Hp) (K : Bool → b6 → (List ByteArray) → Hp → Prop) : Prop :=
 ∀ (g0 : Nat), ∀ (C6 : Sl) (R0 : Frag), RowL 9 1 p5 C6 E5 R0 → Ct Tryd.prog 90 [(Value.pointer (some ⟨g0, 0, none⟩)), (i8 x1), (vi x2)] H [bx g0 92 [(vi x0.fnodes), (vi x0.fdepth), (vi x0.fe), (Value.bool x0.fform), (Value.bool x0.fnamed), (vs C6)], R0] (fun v H' Fo => ∃ (r0 : Bool) (y0 : b6) (a0q : (List ByteArray)) (U5 : Sl) (U6 : Frag), v = (Value.bool r0) ∧ Fo = [bx g0 92 [(vi y0.fnodes), (vi y0.fdepth), (vi y0.fe), (Value.bool y0.fform), (Value.bool y0.fnamed), (vs U5)], U6] ∧ RowL 9 1 p5 U5 a0q U6 ∧ K r0 y0 a0q H') noQE
def C9 (x0 : Sl) (x1 : Int) (x2 : b6) (a2M : (List ByteArray)) (H : Hp) (K : Bool → b6 → (List ByteArray) → Hp → Prop) : Prop :=
 ∀ (g2 g2b g3 : Nat), ∀ (a3C : Sl) (a3D : Frag), RowL 9 1 p5 a3C a2M a3D → Ct Tryd.prog 89 [(vs x0), (vi x1), (Value.pointer (some ⟨g2, 0, none⟩)), (Value.pointer (some ⟨g3, 0, none⟩))] H [bx g2 93 [(Value.pointer (some ⟨g2b, 0, none⟩))], bx g2b 92 [(vi x2.fnodes), (vi x2.fdepth), (vi x2.fe), (Value.bool x2.fform), (Value.bool x2.fnamed), (vs a3C)], a3D, bx g3 139 [(Value.func (.func 89) #[] #[(Value.pointer (some ⟨g2, 0, none⟩)), (Value.pointer (some ⟨g3, 0, none⟩))])]] (fun v H' Fo => ∃ (r0 : Bool) (y0 : b6) (a0q : (List ByteArray)) (U5 : Sl) (U6 : Frag), v = (Value.bool r0) ∧ Fo = [bx g2 93 [(Value.pointer (some ⟨g2b, 0, none⟩))], bx g2b 92 [(vi y0.fnodes), (vi y0.fdepth), (vi y0.fe), (Value.bool y0.fform), (Value.bool y0.fnamed), (vs U5)], U6, bx g3 139 [(Value.func (.func 89) #[] #[(Value.pointer (some ⟨g2, 0, none⟩)), (Value.pointer (some ⟨g3, 0, none⟩))])]] ∧ RowL 9 1 p5 U5 a0q U6 ∧ K r0 y0 a0q H') noQE
def U7 (x0 : Sl) (H : Hp) (K : b6 → Hp → Prop) : Prop :=
 Ct Tryd.prog 57 [(vs x0)] H [] (fun v H' Fo => ∃ (r0 : b6) (gr0 : Nat), v = (Value.pointer (some ⟨gr0, 0, none⟩)) ∧ Fo = [bx gr0 92 (Y8 r0)] ∧ K r0 H') noQE
def Z9 (x0 : u7) (H : Hp) (K : b6 → Hp → Prop) : Prop :=
 Ct Tryd.prog 66 [(Value.agg (p7 x0).toArray)] H [] (fun v H' Fo => ∃ (r0 : b6) (gr0 : Nat), v = (Value.pointer (some ⟨gr0, 0, none⟩)) ∧ Fo = [bx gr0 92 (Y8 r0)] ∧ K r0 H') noQE
def W8 (x0 : u7) (H : Hp) (K : Int → Hp → Prop) : Prop :=
 Ct Tryd.prog 27 [(Value.agg (p7 x0).toArray)] H [] (fun v H' Fo => ∃ (r0 : Int), v = (vi r0) ∧ Fo = [] ∧ K r0 H') noQE
def W0 (H : Hp) (K : Bool → Hp → Prop) : Prop :=
 Ct Tryd.prog 21 [] H [] (fun v H' Fo => ∃ (r0 : Bool), v = (Value.bool r0) ∧ Fo = [] ∧ K r0 H') noQE
def R1 (x0 : Sl) (H : Hp) (K : Int → Hp → Prop) : Prop :=
 Ct Tryd.prog 22 [(vs x0)] H [] (fun v H' Fo => ∃ (r0 : Int), v = (Value.int .u64 r0) ∧ Fo = [] ∧ K r0 H') noQE
def E6 (x0 : Sl) (x1 : Int) (H : Hp) (K : Bool → Hp → Prop) : Prop :=
 Ct Tryd.prog 5 [(vs x0), (Value.int .u8 x1)] H [] (fun v H' Fo => ∃ (r0 : Bool), v = (Value.bool r0) ∧ Fo = [] ∧ K r0 H') noQE
def z8 (x0 : Int) (x1 : Int) (x2 : Int) (x3 : ByteArray) (x4 : Q4) (x5 : Sl) (x5_ : (List Int)) (H : Hp) (K : Sl → (List Int) → Hp → Prop) : Prop :=
 ∀ (g5 : Nat), ∀ (sx5_ : Sl) (Fx5_ : Frag), RowL 5 1 f9 sx5_ x5_ Fx5_ → Ct Tryd.prog 68 [(Value.int .u8 x0), (vi x1), (vi x2), (Value.string x3), (Value.agg #[(vi x4.f0), (vi x4.f1), (vi x4.f2), (vi x4.f3)]), (Value.pointer (some ⟨g5, 0, none⟩))] H [bx g5 40 [(vs sx5_)], Fx5_] (fun v H' Fo => ∃ (y0 : Sl) (y0_ : (List Int)) (sy0_ : Sl) (Fy0_ : Frag), v = (Value.tuple #[]) ∧ Fo = [bx g5 40 [(vs sy0_)], Fy0_] ∧ RowL 5 1 f9 sy0_ y0_ Fy0_ ∧ K y0 y0_ H') noQE
def C3 (x0 : o5) (x1000 : Sl) (x1000_ : (List Int)) (H : Hp) (K : Sl → (List Int) → Hp → Prop) : Prop :=
 ∀ (g1 g2 g1000 : Nat), ∀ (sx1000_ : Sl) (Fx1000_ : Frag), RowL 5 1 f9 sx1000_ x1000_ Fx1000_ → Ct Tryd.prog 69 [(Value.agg (c9 x0).toArray), (Value.pointer (some ⟨g1, 0, none⟩)), (Value.pointer (some ⟨g2, 0, none⟩))] H [bx g1 115 [(Value.func (.func 68) #[] #[(Value.pointer (some ⟨g1000, 0, none⟩))])], bx g2 103 [(Value.func (.func 69) #[] #[(Value.pointer (some ⟨g1, 0, none⟩)), (Value.pointer (some ⟨g2, 0, none⟩))])], bx g1000 40 [(vs sx1000_)], Fx1000_] (fun v H' Fo => ∃ (y0 : Sl) (y0_ : (List Int)) (sy0_ : Sl) (Fy0_ : Frag), v = (Value.tuple #[]) ∧ Fo = [bx g1 115 [(Value.func (.func 68) #[] #[(Value.pointer (some ⟨g1000, 0, none⟩))])], bx g2 103 [(Value.func (.func 69) #[] #[(Value.pointer (some ⟨g1, 0, none⟩)), (Value.pointer (some ⟨g2, 0, none⟩))])], bx g1000 40 [(vs sy0_)], Fy0_] ∧ RowL 5 1 f9 sy0_ y0_ Fy0_ ∧ K y0 y0_ H') noQE
def J2 (x0 : o9) (x1000 : Sl) (x1000_ : (List Int)) (H : Hp) (K : Sl → (List Int) → Hp → Prop) : Prop :=
 ∀ (g1 g2 g3 g1000 : Nat), ∀ (sx1000_ : Sl) (Fx1000_ : Frag), RowL 5 1 f9 sx1000_ x1000_ Fx1000_ → Ct Tryd.prog 70 [(Value.agg (d7 x0).toArray), (Value.pointer (some ⟨g1, 0, none⟩)), (Value.pointer (some ⟨g2, 0, none⟩)), (Value.pointer (some ⟨g3, 0, none⟩))] H [bx g1 115 [(Value.func (.func 68) #[] #[(Value.pointer (some ⟨g1000, 0, none⟩))])], bx g2 103 [(Value.func (.func 69) #[] #[(Value.pointer (some ⟨g1, 0, none⟩)), (Value.pointer (some ⟨g2, 0, none⟩))])], bx g3 108 [(Value.func (.func 70) #[] #[(Value.pointer (some ⟨g1, 0, none⟩)), (Value.pointer (some ⟨g2, 0, none⟩)), (Value.pointer (some ⟨g3, 0, none⟩))])], bx g1000 40 [(vs sx1000_)], Fx1000_] (fun v H' Fo => ∃ (y0 : Sl) (y0_ : (List Int)) (sy0_ : Sl) (Fy0_ : Frag), v = (Value.tuple #[]) ∧ Fo = [bx g1 115 [(Value.func (.func 68) #[] #[(Value.pointer (some ⟨g1000, 0, none⟩))])], bx g2 103 [(Value.func (.func 69) #[] #[(Value.pointer (some ⟨g1, 0, none⟩)), (Value.pointer (some ⟨g2, 0, none⟩))])], bx g3 108 [(Value.func (.func 70) #[] #[(Value.pointer (some ⟨g1, 0, none⟩)), (Value.pointer (some ⟨g2, 0, none⟩)), (Value.pointer (some ⟨g3, 0, none⟩))])], bx g1000 40 [(vs sy0_)], Fy0_] ∧ RowL 5 1 f9 sy0_ y0_ Fy0_ ∧ K y0 y0_ H') noQE
def C4 (x0 : Sl) (x1000 : Sl) (x1000_ : (List Int)) (H : Hp) (K : Sl → (List Int) → Hp → Prop) : Prop :=
 ∀ (g1 g2 g3 g4 g1000 : Nat), ∀ (sx1000_ : Sl) (Fx1000_ : Frag), RowL 5 1 f9 sx1000_ x1000_ Fx1000_ → Ct Tryd.prog 71 [(vs x0), (Value.pointer (some ⟨g1, 0, none⟩)), (Value.pointer (some ⟨g2, 0, none⟩)), (Value.pointer (some ⟨g3, 0, none⟩)), (Value.pointer (some ⟨g4, 0, none⟩))] H [bx g1 115 [(Value.func (.func 68) #[] #[(Value.pointer (some ⟨g1000, 0, none⟩))])], bx g2 108 [(Value.func (.func 70) #[] #[(Value.pointer (some ⟨g1, 0, none⟩)), (Value.pointer (some ⟨g3, 0, none⟩)), (Value.pointer (some ⟨g2, 0, none⟩))])], bx g3 103 [(Value.func (.func 69) #[] #[(Value.pointer (some ⟨g1, 0, none⟩)), (Value.pointer (some ⟨g3, 0, none⟩))])], bx g4 116 [(Value.func (.func 71) #[] #[(Value.pointer (some ⟨g1, 0, none⟩)), (Value.pointer (some ⟨g2, 0, none⟩)), (Value.pointer (some ⟨g3, 0, none⟩)), (Value.pointer (some ⟨g4, 0, none⟩))])], bx g1000 40 [(vs sx1000_)], Fx1000_] (fun v H' Fo => ∃ (y0 : Sl) (y0_ : (List Int)) (sy0_ : Sl) (Fy0_ : Frag), v = (Value.tuple #[]) ∧ Fo = [bx g1 115 [(Value.func (.func 68) #[] #[(Value.pointer (some ⟨g1000, 0, none⟩))])], bx g2 108 [(Value.func (.func 70) #[] #[(Value.pointer (some ⟨g1, 0, none⟩)), (Value.pointer (some ⟨g3, 0, none⟩)), (Value.pointer (some ⟨g2, 0, none⟩))])], bx g3 103 [(Value.func (.func 69) #[] #[(Value.pointer (some ⟨g1, 0, none⟩)), (Value.pointer (some ⟨g3, 0, none⟩))])], bx g4 116 [(Value.func (.func 71) #[] #[(Value.pointer (some ⟨g1, 0, none⟩)), (Value.pointer (some ⟨g2, 0, none⟩)), (Value.pointer (some ⟨g3, 0, none⟩)), (Value.pointer (some ⟨g4, 0, none⟩))])], bx g1000 40 [(vs sy0_)], Fy0_] ∧ RowL 5 1 f9 sy0_ y0_ Fy0_ ∧ K y0 y0_ H') noQE
def a0E (x0 : u7) (H : Hp) (K : Sl → Int → Hp → Prop) : Prop :=
 Ct Tryd.prog 31 [(Value.agg (p7 x0).toArray)] H [] (fun v H' Fo => ∃ (r0 : Sl) (r1 : Int), v = (Value.tuple #[(vs r0), (vi r1)]) ∧ Fo = [] ∧ K r0 r1 H') noQE
def Q1 (x0 : r9) (H : Hp) (K : Bool → Hp → Prop) : Prop :=
 Ct Tryd.prog 148 [(Value.agg (c9 x0.d4).toArray)] H [] (fun v H' Fo => ∃ (r0 : Bool), v = (Value.bool r0) ∧ Fo = [] ∧ K r0 H') noQE
def a1j (x0 : o5) (H : Hp) (K : b3 → Hp → Prop) : Prop :=
 Ct Tryd.prog 151 [(Value.agg (c9 x0).toArray)] H [] (fun v H' Fo => ∃ (r0 : b3), v = (i8 r0) ∧ Fo = [] ∧ K r0 H') noQE
def h8 (x0 : Sl) (H : Hp) (K : Sl → Hp → Prop) : Prop :=
 Ct Tryd.prog 150 [(vs x0), (Value.func (.func 151) #[] #[])] H [] (fun v H' Fo => ∃ (r0 : Sl), v = (vs r0) ∧ Fo = [] ∧ K r0 H') noQE
def X7 (x0 : r9) (H : Hp) (K : Sl → Hp → Prop) : Prop :=
 Ct Tryd.prog 149 [(Value.agg (c9 x0.d4).toArray)] H [] (fun v H' Fo => ∃ (r0 : Sl), v = (vs r0) ∧ Fo = [] ∧ K r0 H') noQE
def Q2 (x0 : w5) (H : Hp) (K : Bool → Hp → Prop) : Prop :=
 Ct Tryd.prog 152 [(Value.agg (d7 x0.c8).toArray)] H [] (fun v H' Fo => ∃ (r0 : Bool), v = (Value.bool r0) ∧ Fo = [] ∧ K r0 H') noQE
def a1k (x0 : o9) (H : Hp) (K : b3 → Hp → Prop) : Prop :=
 Ct Tryd.prog 155 [(Value.agg (d7 x0).toArray)] H [] (fun v H' Fo => ∃ (r0 : b3), v = (i8 r0) ∧ Fo = [] ∧ K r0 H') noQE
def l8 (x0 : Sl) (H : Hp) (K : Sl → Hp → Prop) : Prop :=
 Ct Tryd.prog 154 [(vs x0), (Value.func (.func 155) #[] #[])] H [] (fun v H' Fo => ∃ (r0 : Sl), v = (vs r0) ∧ Fo = [] ∧ K r0 H') noQE
def X8 (x0 : w5) (H : Hp) (K : Sl → Hp → Prop) : Prop :=
 Ct Tryd.prog 153 [(Value.agg (d7 x0.c8).toArray)] H [] (fun v H' Fo => ∃ (r0 : Sl), v = (vs r0) ∧ Fo = [] ∧ K r0 H') noQE
def Z3 (x0 : A0) (H : Hp) (K : Bool → Hp → Prop) : Prop :=
 Ct Tryd.prog 156 [(Value.agg (i5 x0.y7).toArray)] H [] (fun v H' Fo => ∃ (r0 : Bool), v = (Value.bool r0) ∧ Fo = [] ∧ K r0 H') noQE
def X9 (x0 : A0) (H : Hp) (K : Sl → Hp → Prop) : Prop :=
 Ct Tryd.prog 157 [(Value.agg (i5 x0.y7).toArray)] H [] (fun v H' Fo => ∃ (r0 : Sl), v = (vs r0) ∧ Fo = [] ∧ K r0 H') noQE
def Q3 (x0 : w6) (H : Hp) (K : Bool → Hp → Prop) : Prop :=
 Ct Tryd.prog 158 [(Value.agg (f6 x0.b4).toArray)] H [] (fun v H' Fo => ∃ (r0 : Bool), v = (Value.bool r0) ∧ Fo = [] ∧ K r0 H') noQE
def Y0 (x0 : w6) (H : Hp) (K : Sl → Hp → Prop) : Prop :=
 Ct Tryd.prog 159 [(Value.agg (f6 x0.b4).toArray)] H [] (fun v H' Fo => ∃ (r0 : Sl), v = (vs r0) ∧ Fo = [] ∧ K r0 H') noQE
def U8 (x : b3) (H : Hp) (K : Bool → Hp → Prop) : Prop := match x with
 | .nil => False
 | .p6 y => Q1 y H K
 | .u1 y => Q2 y H K
 | .t1 y => Z3 y H K
 | .q6 y => Q3 y H K
def T0 (x : b3) (H : Hp) (K : Sl → Hp → Prop) : Prop := match x with
 | .nil => False
 | .p6 y => X7 y H K
 | .u1 y => X8 y H K
 | .t1 y => X9 y H K
 | .q6 y => Y0 y H K
theorem a4i {E : Pan} {w0 w : World} {ps : Nat → Prop} {H0 H : Hp} {Fr : List Frag} {K : Value → World → Prop} {Kc : Bool → Hp → Prop} {x : b3} (I : Inv w0 ps H0 H Fr w) (h : U8 x H Kc) (hq : ∀ (r0 : Bool) (H' : Hp) (w' : World), Inv w0 ps H0 H' Fr w' → Hle H H' → (∀ i, i < w.heap.size → ¬ inF [] i → w'.heap[i]? = w.heap[i]?) → Kc r0 H' → K (Value.bool r0) w') : opK Tryd.prog E (xInvoke (i8 x) "gnomon/tree.form" []) w K := by
 cases x with
 | nil => exact h.elim
 | p6 y => exact T6 (f := 148) (args := [(Value.agg (c9 y.d4).toArray)].toArray) (by kernel_rfl) (i2 (Fi := []) I h (fun v H' Fo w' I' l hk hq' => by obtain ⟨r0, rfl, rfl, hK⟩ := hq'; exact hq r0 H' w' I' l hk hK) (fun _ _ _ _ _ q => q.elim))
 | u1 y => exact T6 (f := 152) (args := [(Value.agg (d7 y.c8).toArray)].toArray) (by kernel_rfl) (i2 (Fi := []) I h (fun v H' Fo w' I' l hk hq' => by obtain ⟨r0, rfl, rfl, hK⟩ := hq'; exact hq r0 H' w' I' l hk hK) (fun _ _ _ _ _ q => q.elim))
 | t1 y => exact T6 (f := 156) (args := [(Value.agg (i5 y.y7).toArray)].toArray) (by kernel_rfl) (i2 (Fi := []) I h (fun v H' Fo w' I' l hk hq' => by obtain ⟨r0, rfl, rfl, hK⟩ := hq'; exact hq r0 H' w' I' l hk hK) (fun _ _ _ _ _ q => q.elim))
 | q6 y => exact T6 (f := 158) (args := [(Value.agg (f6 y.b4).toArray)].toArray) (by kernel_rfl) (i2 (Fi := []) I h (fun v H' Fo w' I' l hk hq' => by obtain ⟨r0, rfl, rfl, hK⟩ := hq'; exact hq r0 H' w' I' l hk hK) (fun _ _ _ _ _ q => q.elim))
theorem a3U {E : Pan} {w0 w : World} {ps : Nat → Prop} {H0 H : Hp} {Fr : List Frag} {K : Value → World → Prop} {Kc : Sl → Hp → Prop} {x : b3} (I : Inv w0 ps H0 H Fr w) (h : T0 x H Kc) (hq : ∀ (r0 : Sl) (H' : Hp) (w' : World), Inv w0 ps H0 H' Fr w' → Hle H H' → (∀ i, i < w.heap.size → ¬ inF [] i → w'.heap[i]? = w.heap[i]?) → Kc r0 H' → K (vs r0) w') : opK Tryd.prog E (xInvoke (i8 x) "gnomon/tree.parts" []) w K := by
 cases x with
 | nil => exact h.elim
 | p6 y => exact T6 (f := 149) (args := [(Value.agg (c9 y.d4).toArray)].toArray) (by kernel_rfl) (i2 (Fi := []) I h (fun v H' Fo w' I' l hk hq' => by obtain ⟨r0, rfl, rfl, hK⟩ := hq'; exact hq r0 H' w' I' l hk hK) (fun _ _ _ _ _ q => q.elim))
 | u1 y => exact T6 (f := 153) (args := [(Value.agg (d7 y.c8).toArray)].toArray) (by kernel_rfl) (i2 (Fi := []) I h (fun v H' Fo w' I' l hk hq' => by obtain ⟨r0, rfl, rfl, hK⟩ := hq'; exact hq r0 H' w' I' l hk hK) (fun _ _ _ _ _ q => q.elim))
 | t1 y => exact T6 (f := 157) (args := [(Value.agg (i5 y.y7).toArray)].toArray) (by kernel_rfl) (i2 (Fi := []) I h (fun v H' Fo w' I' l hk hq' => by obtain ⟨r0, rfl, rfl, hK⟩ := hq'; exact hq r0 H' w' I' l hk hK) (fun _ _ _ _ _ q => q.elim))
 | q6 y => exact T6 (f := 159) (args := [(Value.agg (f6 y.b4).toArray)].toArray) (by kernel_rfl) (i2 (Fi := []) I h (fun v H' Fo w' I' l hk hq' => by obtain ⟨r0, rfl, rfl, hK⟩ := hq'; exact hq r0 H' w' I' l hk hK) (fun _ _ _ _ _ q => q.elim))
end Go.Proofs.YthldnpmfelniiaaDoor
