/- Contracts of the program's functions; printed by lift.py off the code. -/
import Derived.Test.YthldnpmfelniiaaDoorzXU1
import Derived.Test.YthldnpmfelniiaaDoorzXG1a
import Derived.Test.YthldnpmfelniiaaDoorzXG1b
namespace Go.Proofs.YthldnpmfelniiaaDoor
open Go.RowKit
set_option maxRecDepth 100000
set_option maxHeartbeats 2000000
def a7S (x0 : E8) (H : Hp) (K : c8 → Hp → Prop) : Prop :=
 Ct Tryd.prog 96 [(Value.agg (p5 x0).toArray)] H [] (fun v H' Fo => ∃ (r0 : c8), v = (u0 r0) ∧ Fo = [] ∧ K r0 H') noQE
def D9 (x0 : Sl) (H : Hp) (K : Sl → Hp → Prop) : Prop :=
 Ct Tryd.prog 95 [(vs x0), (Value.func (.func 96) #[] #[])] H [] (fun v H' Fo => ∃ (r0 : Sl), v = (vs r0) ∧ Fo = [] ∧ K r0 H') noQE
def a7T (x0 : i5) (H : Hp) (K : c8 → Hp → Prop) : Prop :=
 Ct Tryd.prog 98 [(Value.agg (d6 x0).toArray)] H [] (fun v H' Fo => ∃ (r0 : c8), v = (u0 r0) ∧ Fo = [] ∧ K r0 H') noQE
def r8 (x0 : Sl) (H : Hp) (K : Sl → Hp → Prop) : Prop :=
 Ct Tryd.prog 97 [(vs x0), (Value.func (.func 98) #[] #[])] H [] (fun v H' Fo => ∃ (r0 : Sl), v = (vs r0) ∧ Fo = [] ∧ K r0 H') noQE
def N4 (x1 : Int) (H : Hp) (K : (List c8) → Hp → Prop) : Prop :=
 Ct Tryd.prog 120 [(Value.slice none 0 0), (vi x1)] H [] (fun v H' Fo => ∃ (r0 : (List c8)) (sr0 : Sl) (Fr0 : Frag), v = (vs sr0) ∧ Fo = [Fr0] ∧ RowL 141 1 m7 sr0 r0 Fr0 ∧ K r0 H') noQE
def v7 (x0 : Sl) (H : Hp) (K : Sl → Hp → Prop) : Prop :=
 Ct Tryd.prog 94 [(vs x0)] H [] (fun v H' Fo => ∃ (r0 : Sl), v = (vs r0) ∧ Fo = [] ∧ K r0 H') noQE
def a2m (x0 : c8) (H : Hp) (K : ByteArray → Bool → Hp → Prop) : Prop :=
 Ct Tryd.prog 114 [(u0 x0)] H [] (fun v H' Fo => ∃ (r0 : ByteArray) (r1 : Bool), v = (Value.tuple #[(Value.string r0), (Value.bool r1)]) ∧ Fo = [] ∧ K r0 r1 H') noQE
def F8 (x0 : Int) (x1 : Int) (x2 : Int) (H : Hp) (K : Bool → Hp → Prop) : Prop :=
 ∀ (g2 : Nat), Ct Tryd.prog 131 [(Value.int .i32 x0), (Value.int .i32 x1), (Value.pointer (some ⟨g2, 0, none⟩))] H [bx g2 21 [(Value.int .i32 x2)]] (fun v H' Fo => ∃ (r0 : Bool), v = (Value.bool r0) ∧ Fo = [bx g2 21 [(Value.int .i32 x2)]] ∧ K r0 H') noQE
def a3A (x0 : Int) (H : Hp) (K : Int → Hp → Prop) : Prop :=
 Ct Tryd.prog 126 [(Value.int .i32 x0)] H [] (fun v H' Fo => ∃ (r0 : Int), v = (vi r0) ∧ Fo = [] ∧ K r0 H') noQE
def a5z (x0 : Int) (H : Hp) (K : Bool → Hp → Prop) : Prop :=
 Ct Tryd.prog 125 [(Value.int .i32 x0)] H [] (fun v H' Fo => ∃ (r0 : Bool), v = (Value.bool r0) ∧ Fo = [] ∧ K r0 H') noQE
def a5q (x0 : ByteArray) (H : Hp) (K : Bool → Hp → Prop) : Prop :=
 Ct Tryd.prog 122 [(Value.string x0)] H [] (fun v H' Fo => ∃ (r0 : Bool), v = (Value.bool r0) ∧ Fo = [] ∧ K r0 H') noQE
def a0w (x0 : ByteArray) (H : Hp) (K : Int → Hp → Prop) : Prop :=
 Ct Tryd.prog 130 [(Value.string x0)] H [] (fun v H' Fo => ∃ (r0 : Int), v = (vi r0) ∧ Fo = [] ∧ K r0 H') noQE
def a4p (x0 : ByteArray) (H : Hp) (K : Bool → Hp → Prop) : Prop :=
 Ct Tryd.prog 123 [(Value.string x0)] H [] (fun v H' Fo => ∃ (r0 : Bool), v = (Value.bool r0) ∧ Fo = [] ∧ K r0 H') noQE
def a2I (x0 : ByteArray) (H : Hp) (K : Bool → Hp → Prop) : Prop :=
 Ct Tryd.prog 124 [(Value.string x0)] H [] (fun v H' Fo => ∃ (r0 : Bool), v = (Value.bool r0) ∧ Fo = [] ∧ K r0 H') noQE
def a4q (x0 : ByteArray) (H : Hp) (K : Bool → Hp → Prop) : Prop :=
 Ct Tryd.prog 115 [(Value.string x0)] H [] (fun v H' Fo => ∃ (r0 : Bool), v = (Value.bool r0) ∧ Fo = [] ∧ K r0 H') noQE
def a1N (x0 : (List ByteArray)) (x1 : ByteArray) (H : Hp) (K : Int → Hp → Prop) : Prop :=
 ∀ (sx0 : Sl) (Fx0 : Frag), RowL 9 1 C2 sx0 x0 Fx0 → Ct Tryd.prog 127 [(vs sx0), (Value.string x1)] H [Fx0] (fun v H' Fo => ∃ (r0 : Int), v = (vi r0) ∧ Fo = [Fx0] ∧ K r0 H') noQE
def J3 (x0 : (List ByteArray)) (x1 : ByteArray) (H : Hp) (K : Bool → Hp → Prop) : Prop :=
 ∀ (sx0 : Sl) (Fx0 : Frag), RowL 9 1 C2 sx0 x0 Fx0 → Ct Tryd.prog 116 [(vs sx0), (Value.string x1)] H [Fx0] (fun v H' Fo => ∃ (r0 : Bool), v = (Value.bool r0) ∧ Fo = [Fx0] ∧ K r0 H') noQE
def a2D (x0 : g7) (a0x : (List ByteArray)) (x1 : c8) (x2 : Int) (H : Hp) (K : Bool → g7 → (List ByteArray) → Hp → Prop) : Prop :=
 ∀ (g0 : Nat), ∀ (Y4 : Sl) (a3W : Frag), RowL 9 1 C2 Y4 a0x a3W → Ct Tryd.prog 90 [(Value.pointer (some ⟨g0, 0, none⟩)), (u0 x1), (vi x2)] H [bx g0 92 [(vi x0.fnodes), (vi x0.fdepth), (vi x0.fe), (Value.bool x0.fform), (Value.bool x0.fnamed), (vs Y4)], a3W] (fun v H' Fo => ∃ (r0 : Bool) (y0 : g7) (a6J : (List ByteArray)) (a4T : Sl) (a4U : Frag), v = (Value.bool r0) ∧ Fo = [bx g0 92 [(vi y0.fnodes), (vi y0.fdepth), (vi y0.fe), (Value.bool y0.fform), (Value.bool y0.fnamed), (vs a4T)], a4U] ∧ RowL 9 1 C2 a4T a6J a4U ∧ K r0 y0 a6J H') noQE
def Z1 (x0 : Sl) (x1 : Int) (x2 : g7) (b0Y : (List ByteArray)) (H : Hp) (K : Bool → g7 → (List ByteArray) → Hp → Prop) : Prop :=
 ∀ (g2 g2b g3 : Nat), ∀ (b2h : Sl) (b2i : Frag), RowL 9 1 C2 b2h b0Y b2i → Ct Tryd.prog 89 [(vs x0), (vi x1), (Value.pointer (some ⟨g2, 0, none⟩)), (Value.pointer (some ⟨g3, 0, none⟩))] H [bx g2 93 [(Value.pointer (some ⟨g2b, 0, none⟩))], bx g2b 92 [(vi x2.fnodes), (vi x2.fdepth), (vi x2.fe), (Value.bool x2.fform), (Value.bool x2.fnamed), (vs b2h)], b2i, bx g3 139 [(Value.func (.func 89) #[] #[(Value.pointer (some ⟨g2, 0, none⟩)), (Value.pointer (some ⟨g3, 0, none⟩))])]] (fun v H' Fo => ∃ (r0 : Bool) (y0 : g7) (a6J : (List ByteArray)) (a4T : Sl) (a4U : Frag), v = (Value.bool r0) ∧ Fo = [bx g2 93 [(Value.pointer (some ⟨g2b, 0, none⟩))], bx g2b 92 [(vi y0.fnodes), (vi y0.fdepth), (vi y0.fe), (Value.bool y0.fform), (Value.bool y0.fnamed), (vs a4T)], a4U, bx g3 139 [(Value.func (.func 89) #[] #[(Value.pointer (some ⟨g2, 0, none⟩)), (Value.pointer (some ⟨g3, 0, none⟩))])]] ∧ RowL 9 1 C2 a4T a6J a4U ∧ K r0 y0 a6J H') noQE
def a4V (x0 : Sl) (H : Hp) (K : g7 → Hp → Prop) : Prop :=
 Ct Tryd.prog 57 [(vs x0)] H [] (fun v H' Fo => ∃ (r0 : g7) (gr0 : Nat), v = (Value.pointer (some ⟨gr0, 0, none⟩)) ∧ Fo = [bx gr0 92 (a5Y r0)] ∧ K r0 H') noQE
def a6n (x0 : k5) (H : Hp) (K : g7 → Hp → Prop) : Prop :=
 Ct Tryd.prog 66 [(Value.agg (f9 x0).toArray)] H [] (fun v H' Fo => ∃ (r0 : g7) (gr0 : Nat), v = (Value.pointer (some ⟨gr0, 0, none⟩)) ∧ Fo = [bx gr0 92 (a5Y r0)] ∧ K r0 H') noQE
def a5A (x0 : k5) (H : Hp) (K : Int → Hp → Prop) : Prop :=
 Ct Tryd.prog 27 [(Value.agg (f9 x0).toArray)] H [] (fun v H' Fo => ∃ (r0 : Int), v = (vi r0) ∧ Fo = [] ∧ K r0 H') noQE
def G5 (x0 : b8) (x1 : Int) (H : Hp) (K : Bool → b8 → Hp → Prop) : Prop :=
 ∀ (g0 : Nat), Ct Tryd.prog 91 [(Value.pointer (some ⟨g0, 0, none⟩)), (vi x1)] H [bx g0 99 (d5 x0)] (fun v H' Fo => ∃ (r0 : Bool) (y0 : b8), v = (Value.bool r0) ∧ Fo = [bx g0 99 (d5 y0)] ∧ K r0 y0 H') noQE
def M1 (x0 : b8) (x1 : k6) (x2 : Int) (H : Hp) (K : b8 → Hp → Prop) : Prop :=
 ∀ (g0 : Nat), Ct Tryd.prog 58 [(Value.pointer (some ⟨g0, 0, none⟩)), (Value.agg (d9 x1).toArray), (vi x2)] H [bx g0 99 (d5 x0)] (fun v H' Fo => ∃ (y0 : b8), v = (Value.tuple #[]) ∧ Fo = [bx g0 99 (d5 y0)] ∧ K y0 H') noQE
def S8 (x0 : b8) (x1 : k3) (x2 : Int) (H : Hp) (K : b8 → Hp → Prop) : Prop :=
 ∀ (g0 : Nat), Ct Tryd.prog 61 [(Value.pointer (some ⟨g0, 0, none⟩)), (Value.agg (f5 x1).toArray), (vi x2)] H [bx g0 99 (d5 x0)] (fun v H' Fo => ∃ (y0 : b8), v = (Value.tuple #[]) ∧ Fo = [bx g0 99 (d5 y0)] ∧ K y0 H') noQE
def M2 (x0 : b8) (x1 : i5) (x2 : Int) (H : Hp) (K : b8 → Hp → Prop) : Prop :=
 ∀ (g0 : Nat), Ct Tryd.prog 92 [(Value.pointer (some ⟨g0, 0, none⟩)), (Value.agg (d6 x1).toArray), (vi x2)] H [bx g0 99 (d5 x0)] (fun v H' Fo => ∃ (y0 : b8), v = (Value.tuple #[]) ∧ Fo = [bx g0 99 (d5 y0)] ∧ K y0 H') noQE
def a2E (x0 : k5) (H : Hp) (K : b8 → Hp → Prop) : Prop :=
 Ct Tryd.prog 63 [(Value.agg (f9 x0).toArray)] H [] (fun v H' Fo => ∃ (r0 : b8), v = (Value.agg (d5 r0).toArray) ∧ Fo = [] ∧ K r0 H') noQE
def a3l (x0 : ByteArray) (x1 : Int) (H : Hp) (K : Int → Int → Bool → Hp → Prop) : Prop :=
 Ct Tryd.prog 118 [(Value.string x0), (vi x1)] H [] (fun v H' Fo => ∃ (r0 : Int) (r1 : Int) (r2 : Bool), v = (Value.tuple #[(vi r0), (vi r1), (Value.bool r2)]) ∧ Fo = [] ∧ K r0 r1 r2 H') noQE
def o5 (x0 : Int) (x1 : Int) (x2 : Int) (H : Hp) (K : Bool → Hp → Prop) : Prop :=
 Ct Tryd.prog 128 [(vi x0), (vi x1), (vi x2)] H [] (fun v H' Fo => ∃ (r0 : Bool), v = (Value.bool r0) ∧ Fo = [] ∧ K r0 H') noQE
def a2O (x0 : Int) (H : Hp) (K : Int → Hp → Prop) : Prop :=
 Ct Tryd.prog 119 [(vi x0)] H [] (fun v H' Fo => ∃ (r0 : Int), v = (vi r0) ∧ Fo = [] ∧ K r0 H') noQE
def a3m (x0 : ByteArray) (H : Hp) (K : Bool → Hp → Prop) : Prop :=
 Ct Tryd.prog 117 [(Value.string x0)] H [] (fun v H' Fo => ∃ (r0 : Bool), v = (Value.bool r0) ∧ Fo = [] ∧ K r0 H') noQE
def a0Y (x0 : ByteArray) (H : Hp) (K : Bool → Hp → Prop) : Prop :=
 Ct Tryd.prog 93 [(Value.string x0)] H [] (fun v H' Fo => ∃ (r0 : Bool), v = (Value.bool r0) ∧ Fo = [] ∧ K r0 H') noQE
def M3 (x0 : b7) (x1 : ByteArray) (x2 : Bool) (H : Hp) (K : b7 → Hp → Prop) : Prop :=
 ∀ (g0 : Nat), Ct Tryd.prog 64 [(Value.pointer (some ⟨g0, 0, none⟩)), (Value.string x1), (Value.bool x2)] H [bx g0 102 (f4 x0)] (fun v H' Fo => ∃ (y0 : b7), v = (Value.tuple #[]) ∧ Fo = [bx g0 102 (f4 y0)] ∧ K y0 H') noQE
def M4 (x0 : b7) (x1 : k6) (H : Hp) (K : b7 → Hp → Prop) : Prop :=
 ∀ (g0 : Nat), Ct Tryd.prog 59 [(Value.pointer (some ⟨g0, 0, none⟩)), (Value.agg (d9 x1).toArray)] H [bx g0 102 (f4 x0)] (fun v H' Fo => ∃ (y0 : b7), v = (Value.tuple #[]) ∧ Fo = [bx g0 102 (f4 y0)] ∧ K y0 H') noQE
def a1t (x0 : b7) (H : Hp) (K : Int → Hp → Prop) : Prop :=
 Ct Tryd.prog 60 [(Value.agg (f4 x0).toArray)] H [] (fun v H' Fo => ∃ (r0 : Int), v = (vi r0) ∧ Fo = [] ∧ K r0 H') noQE
def S9 (x0 : b7) (x1 : k3) (H : Hp) (K : b7 → Hp → Prop) : Prop :=
 ∀ (g0 : Nat), Ct Tryd.prog 62 [(Value.pointer (some ⟨g0, 0, none⟩)), (Value.agg (f5 x1).toArray)] H [bx g0 102 (f4 x0)] (fun v H' Fo => ∃ (y0 : b7), v = (Value.tuple #[]) ∧ Fo = [bx g0 102 (f4 y0)] ∧ K y0 H') noQE
def a5r (H : Hp) (K : Bool → Hp → Prop) : Prop :=
 Ct Tryd.prog 21 [] H [] (fun v H' Fo => ∃ (r0 : Bool), v = (Value.bool r0) ∧ Fo = [] ∧ K r0 H') noQE
def a2o (x0 : Sl) (H : Hp) (K : Int → Hp → Prop) : Prop :=
 Ct Tryd.prog 22 [(vs x0)] H [] (fun v H' Fo => ∃ (r0 : Int), v = (Value.int .u64 r0) ∧ Fo = [] ∧ K r0 H') noQE
def M5 (x0 : b7) (x1 : i5) (H : Hp) (K : b7 → Hp → Prop) : Prop :=
 ∀ (g0 : Nat), Ct Tryd.prog 65 [(Value.pointer (some ⟨g0, 0, none⟩)), (Value.agg (d6 x1).toArray)] H [bx g0 102 (f4 x0)] (fun v H' Fo => ∃ (y0 : b7), v = (Value.tuple #[]) ∧ Fo = [bx g0 102 (f4 y0)] ∧ K y0 H') noQE
def a2P (x0 : k5) (H : Hp) (K : Int → Hp → Prop) : Prop :=
 Ct Tryd.prog 23 [(Value.agg (f9 x0).toArray)] H [] (fun v H' Fo => ∃ (r0 : Int), v = (vi r0) ∧ Fo = [] ∧ K r0 H') noQE
def N6 (x0 : Int) (x1 : Int) (x2 : Int) (x3 : ByteArray) (x4 : J0) (x5 : Sl) (x5_ : (List Int)) (H : Hp) (K : Sl → (List Int) → Hp → Prop) : Prop :=
 ∀ (g5 : Nat), ∀ (sx5_ : Sl) (Fx5_ : Frag), RowL 5 1 g8 sx5_ x5_ Fx5_ → Ct Tryd.prog 68 [(Value.int .u8 x0), (vi x1), (vi x2), (Value.string x3), (Value.agg #[(vi x4.f0), (vi x4.f1), (vi x4.f2), (vi x4.f3)]), (Value.pointer (some ⟨g5, 0, none⟩))] H [bx g5 40 [(vs sx5_)], Fx5_] (fun v H' Fo => ∃ (y0 : Sl) (y0_ : (List Int)) (sy0_ : Sl) (Fy0_ : Frag), v = (Value.tuple #[]) ∧ Fo = [bx g5 40 [(vs sy0_)], Fy0_] ∧ RowL 5 1 g8 sy0_ y0_ Fy0_ ∧ K y0 y0_ H') noQE
def Y1 (x0 : k6) (x1000 : Sl) (x1000_ : (List Int)) (H : Hp) (K : Sl → (List Int) → Hp → Prop) : Prop :=
 ∀ (g1 g2 g1000 : Nat), ∀ (sx1000_ : Sl) (Fx1000_ : Frag), RowL 5 1 g8 sx1000_ x1000_ Fx1000_ → Ct Tryd.prog 69 [(Value.agg (d9 x0).toArray), (Value.pointer (some ⟨g1, 0, none⟩)), (Value.pointer (some ⟨g2, 0, none⟩))] H [bx g1 115 [(Value.func (.func 68) #[] #[(Value.pointer (some ⟨g1000, 0, none⟩))])], bx g2 103 [(Value.func (.func 69) #[] #[(Value.pointer (some ⟨g1, 0, none⟩)), (Value.pointer (some ⟨g2, 0, none⟩))])], bx g1000 40 [(vs sx1000_)], Fx1000_] (fun v H' Fo => ∃ (y0 : Sl) (y0_ : (List Int)) (sy0_ : Sl) (Fy0_ : Frag), v = (Value.tuple #[]) ∧ Fo = [bx g1 115 [(Value.func (.func 68) #[] #[(Value.pointer (some ⟨g1000, 0, none⟩))])], bx g2 103 [(Value.func (.func 69) #[] #[(Value.pointer (some ⟨g1, 0, none⟩)), (Value.pointer (some ⟨g2, 0, none⟩))])], bx g1000 40 [(vs sy0_)], Fy0_] ∧ RowL 5 1 g8 sy0_ y0_ Fy0_ ∧ K y0 y0_ H') noQE
def a1v (x0 : k3) (x1000 : Sl) (x1000_ : (List Int)) (H : Hp) (K : Sl → (List Int) → Hp → Prop) : Prop :=
 ∀ (g1 g2 g3 g1000 : Nat), ∀ (sx1000_ : Sl) (Fx1000_ : Frag), RowL 5 1 g8 sx1000_ x1000_ Fx1000_ → Ct Tryd.prog 70 [(Value.agg (f5 x0).toArray), (Value.pointer (some ⟨g1, 0, none⟩)), (Value.pointer (some ⟨g2, 0, none⟩)), (Value.pointer (some ⟨g3, 0, none⟩))] H [bx g1 115 [(Value.func (.func 68) #[] #[(Value.pointer (some ⟨g1000, 0, none⟩))])], bx g2 103 [(Value.func (.func 69) #[] #[(Value.pointer (some ⟨g1, 0, none⟩)), (Value.pointer (some ⟨g2, 0, none⟩))])], bx g3 108 [(Value.func (.func 70) #[] #[(Value.pointer (some ⟨g1, 0, none⟩)), (Value.pointer (some ⟨g2, 0, none⟩)), (Value.pointer (some ⟨g3, 0, none⟩))])], bx g1000 40 [(vs sx1000_)], Fx1000_] (fun v H' Fo => ∃ (y0 : Sl) (y0_ : (List Int)) (sy0_ : Sl) (Fy0_ : Frag), v = (Value.tuple #[]) ∧ Fo = [bx g1 115 [(Value.func (.func 68) #[] #[(Value.pointer (some ⟨g1000, 0, none⟩))])], bx g2 103 [(Value.func (.func 69) #[] #[(Value.pointer (some ⟨g1, 0, none⟩)), (Value.pointer (some ⟨g2, 0, none⟩))])], bx g3 108 [(Value.func (.func 70) #[] #[(Value.pointer (some ⟨g1, 0, none⟩)), (Value.pointer (some ⟨g2, 0, none⟩)), (Value.pointer (some ⟨g3, 0, none⟩))])], bx g1000 40 [(vs sy0_)], Fy0_] ∧ RowL 5 1 g8 sy0_ y0_ Fy0_ ∧ K y0 y0_ H') noQE
def Y2 (x0 : Sl) (x1000 : Sl) (x1000_ : (List Int)) (H : Hp) (K : Sl → (List Int) → Hp → Prop) : Prop :=
 ∀ (g1 g2 g3 g4 g1000 : Nat), ∀ (sx1000_ : Sl) (Fx1000_ : Frag), RowL 5 1 g8 sx1000_ x1000_ Fx1000_ → Ct Tryd.prog 71 [(vs x0), (Value.pointer (some ⟨g1, 0, none⟩)), (Value.pointer (some ⟨g2, 0, none⟩)), (Value.pointer (some ⟨g3, 0, none⟩)), (Value.pointer (some ⟨g4, 0, none⟩))] H [bx g1 115 [(Value.func (.func 68) #[] #[(Value.pointer (some ⟨g1000, 0, none⟩))])], bx g2 108 [(Value.func (.func 70) #[] #[(Value.pointer (some ⟨g1, 0, none⟩)), (Value.pointer (some ⟨g3, 0, none⟩)), (Value.pointer (some ⟨g2, 0, none⟩))])], bx g3 103 [(Value.func (.func 69) #[] #[(Value.pointer (some ⟨g1, 0, none⟩)), (Value.pointer (some ⟨g3, 0, none⟩))])], bx g4 116 [(Value.func (.func 71) #[] #[(Value.pointer (some ⟨g1, 0, none⟩)), (Value.pointer (some ⟨g2, 0, none⟩)), (Value.pointer (some ⟨g3, 0, none⟩)), (Value.pointer (some ⟨g4, 0, none⟩))])], bx g1000 40 [(vs sx1000_)], Fx1000_] (fun v H' Fo => ∃ (y0 : Sl) (y0_ : (List Int)) (sy0_ : Sl) (Fy0_ : Frag), v = (Value.tuple #[]) ∧ Fo = [bx g1 115 [(Value.func (.func 68) #[] #[(Value.pointer (some ⟨g1000, 0, none⟩))])], bx g2 108 [(Value.func (.func 70) #[] #[(Value.pointer (some ⟨g1, 0, none⟩)), (Value.pointer (some ⟨g3, 0, none⟩)), (Value.pointer (some ⟨g2, 0, none⟩))])], bx g3 103 [(Value.func (.func 69) #[] #[(Value.pointer (some ⟨g1, 0, none⟩)), (Value.pointer (some ⟨g3, 0, none⟩))])], bx g4 116 [(Value.func (.func 71) #[] #[(Value.pointer (some ⟨g1, 0, none⟩)), (Value.pointer (some ⟨g2, 0, none⟩)), (Value.pointer (some ⟨g3, 0, none⟩)), (Value.pointer (some ⟨g4, 0, none⟩))])], bx g1000 40 [(vs sy0_)], Fy0_] ∧ RowL 5 1 g8 sy0_ y0_ Fy0_ ∧ K y0 y0_ H') noQE
def a2t (x0 : k5) (H : Hp) (K : Sl → Int → Hp → Prop) : Prop :=
 Ct Tryd.prog 31 [(Value.agg (f9 x0).toArray)] H [] (fun v H' Fo => ∃ (r0 : Sl) (r1 : Int), v = (Value.tuple #[(vs r0), (vi r1)]) ∧ Fo = [] ∧ K r0 r1 H') noQE
def L8 (x0 : (List Int)) (x1 : Int) (x2 : Int) (x3 : Int) (x4 : ByteArray) (x5 : J0) (H : Hp) (K : (List Int) → Hp → Prop) : Prop :=
 ∀ (sx0 : Sl) (Fx0 : Frag), RowL 5 1 g8 sx0 x0 Fx0 → Ct Tryd.prog 72 [(vs sx0), (Value.int .u8 x1), (vi x2), (Value.int .u64 x3), (Value.string x4), (Value.agg #[(vi x5.f0), (vi x5.f1), (vi x5.f2), (vi x5.f3)])] H [Fx0] (fun v H' Fo => ∃ (r0 : (List Int)) (sr0 : Sl) (Fr0 : Frag), v = (vs sr0) ∧ Fo = [Fr0] ∧ RowL 5 1 g8 sr0 r0 Fr0 ∧ K r0 H') noQE
def S2 (x0 : (List Int)) (x1 : k6) (H : Hp) (K : (List Int) → Hp → Prop) : Prop :=
 ∀ (sx0 : Sl) (Fx0 : Frag), RowL 5 1 g8 sx0 x0 Fx0 → Ct Tryd.prog 100 [(vs sx0), (Value.agg (d9 x1).toArray)] H [Fx0] (fun v H' Fo => ∃ (r0 : (List Int)) (sr0 : Sl) (Fr0 : Frag), v = (vs sr0) ∧ Fo = [Fr0] ∧ RowL 5 1 g8 sr0 r0 Fr0 ∧ K r0 H') noQE
def a0F (x0 : (List Int)) (x1 : k3) (H : Hp) (K : (List Int) → Hp → Prop) : Prop :=
 ∀ (sx0 : Sl) (Fx0 : Frag), RowL 5 1 g8 sx0 x0 Fx0 → Ct Tryd.prog 99 [(vs sx0), (Value.agg (f5 x1).toArray)] H [Fx0] (fun v H' Fo => ∃ (r0 : (List Int)) (sr0 : Sl) (Fr0 : Frag), v = (vs sr0) ∧ Fo = [Fr0] ∧ RowL 5 1 g8 sr0 r0 Fr0 ∧ K r0 H') noQE
def Q5 (x0 : (List Int)) (x1 : Sl) (H : Hp) (K : (List Int) → Hp → Prop) : Prop :=
 ∀ (sx0 : Sl) (Fx0 : Frag), RowL 5 1 g8 sx0 x0 Fx0 → Ct Tryd.prog 73 [(vs sx0), (vs x1)] H [Fx0] (fun v H' Fo => ∃ (r0 : (List Int)) (sr0 : Sl) (Fr0 : Frag), v = (vs sr0) ∧ Fo = [Fr0] ∧ RowL 5 1 g8 sr0 r0 Fr0 ∧ K r0 H') noQE
def Z7 (x0 : k5) (H : Hp) (K : Sl → Int → Hp → Prop) : Prop :=
 Ct Tryd.prog 32 [(Value.agg (f9 x0).toArray)] H [] (fun v H' Fo => ∃ (r0 : Sl) (r1 : Int), v = (Value.tuple #[(vs r0), (vi r1)]) ∧ Fo = [] ∧ K r0 r1 H') noQE
def a5B (x0 : k5) (H : Hp) (K : Int → Int → Hp → Prop) : Prop :=
 Ct Tryd.prog 33 [(Value.agg (f9 x0).toArray)] H [] (fun v H' Fo => ∃ (r0 : Int) (r1 : Int), v = (Value.tuple #[(Value.int .u64 r0), (vi r1)]) ∧ Fo = [] ∧ K r0 r1 H') noQE
def N7 (x0 : Sl) (H : Hp) (K : Int → Hp → Prop) : Prop :=
 Ct Tryd.prog 36 [(vs x0)] H [] (fun v H' Fo => ∃ (r0 : Int), v = (Value.int .u64 r0) ∧ Fo = [] ∧ K r0 H') noQE
def a3o (x0 : k5) (H : Hp) (K : Int → Int → Hp → Prop) : Prop :=
 Ct Tryd.prog 34 [(Value.agg (f9 x0).toArray)] H [] (fun v H' Fo => ∃ (r0 : Int) (r1 : Int), v = (Value.tuple #[(Value.int .u64 r0), (vi r1)]) ∧ Fo = [] ∧ K r0 r1 H') noQE
def a5H (x0 : Sl) (x1 : Sl) (H : Hp) (K : Bool → Hp → Prop) : Prop :=
 Ct Tryd.prog 35 [(vs x0), (vs x1)] H [] (fun v H' Fo => ∃ (r0 : Bool), v = (Value.bool r0) ∧ Fo = [] ∧ K r0 H') noQE
def a0y (x0 : k5) (x1 : Sl) (H : Hp) (K : Bool → Hp → Prop) : Prop :=
 Ct Tryd.prog 7 [(Value.agg (f9 x0).toArray), (vs x1)] H [] (fun v H' Fo => ∃ (r0 : Bool), v = (Value.bool r0) ∧ Fo = [] ∧ K r0 H') noQE
def a3M (x0 : E5) (H : Hp) (K : Bool → Hp → Prop) : Prop :=
 Ct Tryd.prog 148 [(Value.agg (d9 x0.k4).toArray)] H [] (fun v H' Fo => ∃ (r0 : Bool), v = (Value.bool r0) ∧ Fo = [] ∧ K r0 H') noQE
def a7U (x0 : k6) (H : Hp) (K : c8 → Hp → Prop) : Prop :=
 Ct Tryd.prog 151 [(Value.agg (d9 x0).toArray)] H [] (fun v H' Fo => ∃ (r0 : c8), v = (u0 r0) ∧ Fo = [] ∧ K r0 H') noQE
def r9 (x0 : Sl) (H : Hp) (K : Sl → Hp → Prop) : Prop :=
 Ct Tryd.prog 150 [(vs x0), (Value.func (.func 151) #[] #[])] H [] (fun v H' Fo => ∃ (r0 : Sl), v = (vs r0) ∧ Fo = [] ∧ K r0 H') noQE
def a5M (x0 : E5) (H : Hp) (K : Sl → Hp → Prop) : Prop :=
 Ct Tryd.prog 149 [(Value.agg (d9 x0.k4).toArray)] H [] (fun v H' Fo => ∃ (r0 : Sl), v = (vs r0) ∧ Fo = [] ∧ K r0 H') noQE
def a3N (x0 : K3) (H : Hp) (K : Bool → Hp → Prop) : Prop :=
 Ct Tryd.prog 152 [(Value.agg (f5 x0.i7).toArray)] H [] (fun v H' Fo => ∃ (r0 : Bool), v = (Value.bool r0) ∧ Fo = [] ∧ K r0 H') noQE
def a7V (x0 : k3) (H : Hp) (K : c8 → Hp → Prop) : Prop :=
 Ct Tryd.prog 155 [(Value.agg (f5 x0).toArray)] H [] (fun v H' Fo => ∃ (r0 : c8), v = (u0 r0) ∧ Fo = [] ∧ K r0 H') noQE
def y6 (x0 : Sl) (H : Hp) (K : Sl → Hp → Prop) : Prop :=
 Ct Tryd.prog 154 [(vs x0), (Value.func (.func 155) #[] #[])] H [] (fun v H' Fo => ∃ (r0 : Sl), v = (vs r0) ∧ Fo = [] ∧ K r0 H') noQE
def a5N (x0 : K3) (H : Hp) (K : Sl → Hp → Prop) : Prop :=
 Ct Tryd.prog 153 [(Value.agg (f5 x0.i7).toArray)] H [] (fun v H' Fo => ∃ (r0 : Sl), v = (vs r0) ∧ Fo = [] ∧ K r0 H') noQE
def a6k (x0 : N8) (H : Hp) (K : Bool → Hp → Prop) : Prop :=
 Ct Tryd.prog 156 [(Value.agg (p5 x0.M8).toArray)] H [] (fun v H' Fo => ∃ (r0 : Bool), v = (Value.bool r0) ∧ Fo = [] ∧ K r0 H') noQE
def a5O (x0 : N8) (H : Hp) (K : Sl → Hp → Prop) : Prop :=
 Ct Tryd.prog 157 [(Value.agg (p5 x0.M8).toArray)] H [] (fun v H' Fo => ∃ (r0 : Sl), v = (vs r0) ∧ Fo = [] ∧ K r0 H') noQE
def a3O (x0 : K4) (H : Hp) (K : Bool → Hp → Prop) : Prop :=
 Ct Tryd.prog 158 [(Value.agg (d6 x0.c9).toArray)] H [] (fun v H' Fo => ∃ (r0 : Bool), v = (Value.bool r0) ∧ Fo = [] ∧ K r0 H') noQE
def a5P (x0 : K4) (H : Hp) (K : Sl → Hp → Prop) : Prop :=
 Ct Tryd.prog 159 [(Value.agg (d6 x0.c9).toArray)] H [] (fun v H' Fo => ∃ (r0 : Sl), v = (vs r0) ∧ Fo = [] ∧ K r0 H') noQE
def a4W (x : c8) (H : Hp) (K : Bool → Hp → Prop) : Prop := match x with
 | .nil => False
 | .C3 y => a3M y H K
 | .G9 y => a3N y H K
 | .G2 y => a6k y H K
 | .C9 y => a3O y H K
def a4H (x : c8) (H : Hp) (K : Sl → Hp → Prop) : Prop := match x with
 | .nil => False
 | .C3 y => a5M y H K
 | .G9 y => a5N y H K
 | .G2 y => a5O y H K
 | .C9 y => a5P y H K
theorem b3d {E : Pan} {w0 w : World} {ps : Nat → Prop} {H0 H : Hp} {Fr : List Frag} {K : Value → World → Prop} {Kc : Bool → Hp → Prop} {x : c8} (I : Inv w0 ps H0 H Fr w) (h : a4W x H Kc) (hq : ∀ (r0 : Bool) (H' : Hp) (w' : World), Inv w0 ps H0 H' Fr w' → Hle H H' → (∀ i, i < w.heap.size → ¬ inF [] i → w'.heap[i]? = w.heap[i]?) → Kc r0 H' → K (Value.bool r0) w') : opK Tryd.prog E (xInvoke (u0 x) "gnomon/tree.form" []) w K := by
 cases x with
 | nil => exact h.elim
 | C3 y => exact a4L (f := 148) (args := [(Value.agg (d9 y.k4).toArray)].toArray) (by kernel_rfl) (i6 (Fi := []) I h (fun v H' Fo w' I' l hk hq' => by obtain ⟨r0, rfl, rfl, hK⟩ := hq'; exact hq r0 H' w' I' l hk hK) (fun _ _ _ _ _ q => q.elim))
 | G9 y => exact a4L (f := 152) (args := [(Value.agg (f5 y.i7).toArray)].toArray) (by kernel_rfl) (i6 (Fi := []) I h (fun v H' Fo w' I' l hk hq' => by obtain ⟨r0, rfl, rfl, hK⟩ := hq'; exact hq r0 H' w' I' l hk hK) (fun _ _ _ _ _ q => q.elim))
 | G2 y => exact a4L (f := 156) (args := [(Value.agg (p5 y.M8).toArray)].toArray) (by kernel_rfl) (i6 (Fi := []) I h (fun v H' Fo w' I' l hk hq' => by obtain ⟨r0, rfl, rfl, hK⟩ := hq'; exact hq r0 H' w' I' l hk hK) (fun _ _ _ _ _ q => q.elim))
 | C9 y => exact a4L (f := 158) (args := [(Value.agg (d6 y.c9).toArray)].toArray) (by kernel_rfl) (i6 (Fi := []) I h (fun v H' Fo w' I' l hk hq' => by obtain ⟨r0, rfl, rfl, hK⟩ := hq'; exact hq r0 H' w' I' l hk hK) (fun _ _ _ _ _ q => q.elim))
theorem b2E {E : Pan} {w0 w : World} {ps : Nat → Prop} {H0 H : Hp} {Fr : List Frag} {K : Value → World → Prop} {Kc : Sl → Hp → Prop} {x : c8} (I : Inv w0 ps H0 H Fr w) (h : a4H x H Kc) (hq : ∀ (r0 : Sl) (H' : Hp) (w' : World), Inv w0 ps H0 H' Fr w' → Hle H H' → (∀ i, i < w.heap.size → ¬ inF [] i → w'.heap[i]? = w.heap[i]?) → Kc r0 H' → K (vs r0) w') : opK Tryd.prog E (xInvoke (u0 x) "gnomon/tree.parts" []) w K := by
 cases x with
 | nil => exact h.elim
 | C3 y => exact a4L (f := 149) (args := [(Value.agg (d9 y.k4).toArray)].toArray) (by kernel_rfl) (i6 (Fi := []) I h (fun v H' Fo w' I' l hk hq' => by obtain ⟨r0, rfl, rfl, hK⟩ := hq'; exact hq r0 H' w' I' l hk hK) (fun _ _ _ _ _ q => q.elim))
 | G9 y => exact a4L (f := 153) (args := [(Value.agg (f5 y.i7).toArray)].toArray) (by kernel_rfl) (i6 (Fi := []) I h (fun v H' Fo w' I' l hk hq' => by obtain ⟨r0, rfl, rfl, hK⟩ := hq'; exact hq r0 H' w' I' l hk hK) (fun _ _ _ _ _ q => q.elim))
 | G2 y => exact a4L (f := 157) (args := [(Value.agg (p5 y.M8).toArray)].toArray) (by kernel_rfl) (i6 (Fi := []) I h (fun v H' Fo w' I' l hk hq' => by obtain ⟨r0, rfl, rfl, hK⟩ := hq'; exact hq r0 H' w' I' l hk hK) (fun _ _ _ _ _ q => q.elim))
 | C9 y => exact a4L (f := 159) (args := [(Value.agg (d6 y.c9).toArray)].toArray) (by kernel_rfl) (i6 (Fi := []) I h (fun v H' Fo w' I' l hk hq' => by obtain ⟨r0, rfl, rfl, hK⟩ := hq'; exact hq r0 H' w' I' l hk hK) (fun _ _ _ _ _ q => q.elim))
end Go.Proofs.YthldnpmfelniiaaDoor
