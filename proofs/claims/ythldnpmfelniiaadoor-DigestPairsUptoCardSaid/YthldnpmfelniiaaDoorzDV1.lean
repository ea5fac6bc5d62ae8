/- Contracts of the program's functions; printed by lift.py off the code. -/
import Derived.Test.YthldnpmfelniiaaDoorzDU1
import Derived.Test.YthldnpmfelniiaaDoorzDG1a
import Derived.Test.YthldnpmfelniiaaDoorzDG1b
namespace Go.Proofs.YthldnpmfelniiaaDoor
open Go.RowKit
set_option maxRecDepth 100000
set_option maxHeartbeats 2000000
def a6i (x0 : A4) (H : Hp) (K : b9 → Hp → Prop) : Prop :=
 Ct Tryd.prog 96 [(Value.agg (k8 x0).toArray)] H [] (fun v H' Fo => ∃ (r0 : b9), v = (u2 r0) ∧ Fo = [] ∧ K r0 H') noQE
def E4 (x0 : Sl) (H : Hp) (K : Sl → Hp → Prop) : Prop :=
 Ct Tryd.prog 95 [(vs x0), (Value.func (.func 96) #[] #[])] H [] (fun v H' Fo => ∃ (r0 : Sl), v = (vs r0) ∧ Fo = [] ∧ K r0 H') noQE
def a6j (x0 : g8) (H : Hp) (K : b9 → Hp → Prop) : Prop :=
 Ct Tryd.prog 98 [(Value.agg (b8 x0).toArray)] H [] (fun v H' Fo => ∃ (r0 : b9), v = (u2 r0) ∧ Fo = [] ∧ K r0 H') noQE
def q9 (x0 : Sl) (H : Hp) (K : Sl → Hp → Prop) : Prop :=
 Ct Tryd.prog 97 [(vs x0), (Value.func (.func 98) #[] #[])] H [] (fun v H' Fo => ∃ (r0 : Sl), v = (vs r0) ∧ Fo = [] ∧ K r0 H') noQE
def N6 (x1 : Int) (H : Hp) (K : (List b9) → Hp → Prop) : Prop :=
 Ct Tryd.prog 120 [(Value.slice none 0 0), (vi x1)] H [] (fun v H' Fo => ∃ (r0 : (List b9)) (sr0 : Sl) (Fr0 : Frag), v = (vs sr0) ∧ Fo = [Fr0] ∧ RowL 141 1 m6 sr0 r0 Fr0 ∧ K r0 H') noQE
def y7 (x0 : Sl) (H : Hp) (K : Sl → Hp → Prop) : Prop :=
 Ct Tryd.prog 94 [(vs x0)] H [] (fun v H' Fo => ∃ (r0 : Sl), v = (vs r0) ∧ Fo = [] ∧ K r0 H') noQE
def a0P (x0 : b9) (H : Hp) (K : ByteArray → Bool → Hp → Prop) : Prop :=
 Ct Tryd.prog 114 [(u2 x0)] H [] (fun v H' Fo => ∃ (r0 : ByteArray) (r1 : Bool), v = (Value.tuple #[(Value.string r0), (Value.bool r1)]) ∧ Fo = [] ∧ K r0 r1 H') noQE
def G8 (x0 : Int) (x1 : Int) (x2 : Int) (H : Hp) (K : Bool → Hp → Prop) : Prop :=
 ∀ (g2 : Nat), Ct Tryd.prog 131 [(Value.int .i32 x0), (Value.int .i32 x1), (Value.pointer (some ⟨g2, 0, none⟩))] H [bx g2 21 [(Value.int .i32 x2)]] (fun v H' Fo => ∃ (r0 : Bool), v = (Value.bool r0) ∧ Fo = [bx g2 21 [(Value.int .i32 x2)]] ∧ K r0 H') noQE
def a1L (x0 : Int) (H : Hp) (K : Int → Hp → Prop) : Prop :=
 Ct Tryd.prog 126 [(Value.int .i32 x0)] H [] (fun v H' Fo => ∃ (r0 : Int), v = (vi r0) ∧ Fo = [] ∧ K r0 H') noQE
def a3K (x0 : Int) (H : Hp) (K : Bool → Hp → Prop) : Prop :=
 Ct Tryd.prog 125 [(Value.int .i32 x0)] H [] (fun v H' Fo => ∃ (r0 : Bool), v = (Value.bool r0) ∧ Fo = [] ∧ K r0 H') noQE
def a3B (x0 : ByteArray) (H : Hp) (K : Bool → Hp → Prop) : Prop :=
 Ct Tryd.prog 122 [(Value.string x0)] H [] (fun v H' Fo => ∃ (r0 : Bool), v = (Value.bool r0) ∧ Fo = [] ∧ K r0 H') noQE
def W6 (x0 : ByteArray) (H : Hp) (K : Int → Hp → Prop) : Prop :=
 Ct Tryd.prog 130 [(Value.string x0)] H [] (fun v H' Fo => ∃ (r0 : Int), v = (vi r0) ∧ Fo = [] ∧ K r0 H') noQE
def a2z (x0 : ByteArray) (H : Hp) (K : Bool → Hp → Prop) : Prop :=
 Ct Tryd.prog 123 [(Value.string x0)] H [] (fun v H' Fo => ∃ (r0 : Bool), v = (Value.bool r0) ∧ Fo = [] ∧ K r0 H') noQE
def a1i (x0 : ByteArray) (H : Hp) (K : Bool → Hp → Prop) : Prop :=
 Ct Tryd.prog 124 [(Value.string x0)] H [] (fun v H' Fo => ∃ (r0 : Bool), v = (Value.bool r0) ∧ Fo = [] ∧ K r0 H') noQE
def a2A (x0 : ByteArray) (H : Hp) (K : Bool → Hp → Prop) : Prop :=
 Ct Tryd.prog 115 [(Value.string x0)] H [] (fun v H' Fo => ∃ (r0 : Bool), v = (Value.bool r0) ∧ Fo = [] ∧ K r0 H') noQE
def a0r (x0 : (List ByteArray)) (x1 : ByteArray) (H : Hp) (K : Int → Hp → Prop) : Prop :=
 ∀ (sx0 : Sl) (Fx0 : Frag), RowL 9 1 C9 sx0 x0 Fx0 → Ct Tryd.prog 127 [(vs sx0), (Value.string x1)] H [Fx0] (fun v H' Fo => ∃ (r0 : Int), v = (vi r0) ∧ Fo = [Fx0] ∧ K r0 H') noQE
def K4 (x0 : (List ByteArray)) (x1 : ByteArray) (H : Hp) (K : Bool → Hp → Prop) : Prop :=
 ∀ (sx0 : Sl) (Fx0 : Frag), RowL 9 1 C9 sx0 x0 Fx0 → Ct Tryd.prog 116 [(vs sx0), (Value.string x1)] H [Fx0] (fun v H' Fo => ∃ (r0 : Bool), v = (Value.bool r0) ∧ Fo = [Fx0] ∧ K r0 H') noQE
def a1d (x0 : f4) (W7 : (List ByteArray)) (x1 : b9) (x2 : Int) (H : Hp) (K : Bool → f4 → (List ByteArray) → Hp → Prop) : Prop :=
 ∀ (g0 : Nat), ∀ (U5 : Sl) (a2j : Frag), RowL 9 1 C9 U5 W7 a2j → Ct Tryd.prog 90 [(Value.pointer (some ⟨g0, 0, none⟩)), (u2 x1), (vi x2)] H [bx g0 92 [(vi x0.fnodes), (vi x0.fdepth), (vi x0.fe), (Value.bool x0.fform), (Value.bool x0.fnamed), (vs U5)], a2j] (fun v H' Fo => ∃ (r0 : Bool) (y0 : f4) (a4W : (List ByteArray)) (a3b : Sl) (a3d : Frag), v = (Value.bool r0) ∧ Fo = [bx g0 92 [(vi y0.fnodes), (vi y0.fdepth), (vi y0.fe), (Value.bool y0.fform), (Value.bool y0.fnamed), (vs a3b)], a3d] ∧ RowL 9 1 C9 a3b a4W a3d ∧ K r0 y0 a4W H') noQE
def U9 (x0 : Sl) (x1 : Int) (x2 : f4) (a8W : (List ByteArray)) (H : Hp) (K : Bool → f4 → (List ByteArray) → Hp → Prop) : Prop :=
 ∀ (g2 g2b g3 : Nat), ∀ (a9W : Sl) (a9X : Frag), RowL 9 1 C9 a9W a8W a9X → Ct Tryd.prog 89 [(vs x0), (vi x1), (Value.pointer (some ⟨g2, 0, none⟩)), (Value.pointer (some ⟨g3, 0, none⟩))] H [bx g2 93 [(Value.pointer (some ⟨g2b, 0, none⟩))], bx g2b 92 [(vi x2.fnodes), (vi x2.fdepth), (vi x2.fe), (Value.bool x2.fform), (Value.bool x2.fnamed), (vs a9W)], a9X, bx g3 139 [(Value.func (.func 89) #[] #[(Value.pointer (some ⟨g2, 0, none⟩)), (Value.pointer (some ⟨g3, 0, none⟩))])]] (fun v H' Fo => ∃ (r0 : Bool) (y0 : f4) (a4W : (List ByteArray)) (a3b : Sl) (a3d : Frag), v = (Value.bool r0) ∧ Fo = [bx g2 93 [(Value.pointer (some ⟨g2b, 0, none⟩))], bx g2b 92 [(vi y0.fnodes), (vi y0.fdepth), (vi y0.fe), (Value.bool y0.fform), (Value.bool y0.fnamed), (vs a3b)], a3d, bx g3 139 [(Value.func (.func 89) #[] #[(Value.pointer (some ⟨g2, 0, none⟩)), (Value.pointer (some ⟨g3, 0, none⟩))])]] ∧ RowL 9 1 C9 a3b a4W a3d ∧ K r0 y0 a4W H') noQE
def a3e (x0 : Sl) (H : Hp) (K : f4 → Hp → Prop) : Prop :=
 Ct Tryd.prog 57 [(vs x0)] H [] (fun v H' Fo => ∃ (r0 : f4) (gr0 : Nat), v = (Value.pointer (some ⟨gr0, 0, none⟩)) ∧ Fo = [bx gr0 92 (a4l r0)] ∧ K r0 H') noQE
def a4w (x0 : f6) (H : Hp) (K : f4 → Hp → Prop) : Prop :=
 Ct Tryd.prog 66 [(Value.agg (b6 x0).toArray)] H [] (fun v H' Fo => ∃ (r0 : f4) (gr0 : Nat), v = (Value.pointer (some ⟨gr0, 0, none⟩)) ∧ Fo = [bx gr0 92 (a4l r0)] ∧ K r0 H') noQE
def a1M (x0 : f6) (H : Hp) (K : Int → Hp → Prop) : Prop :=
 Ct Tryd.prog 27 [(Value.agg (b6 x0).toArray)] H [] (fun v H' Fo => ∃ (r0 : Int), v = (vi r0) ∧ Fo = [] ∧ K r0 H') noQE
def a0R (x0 : f6) (H : Hp) (K : Bool → Hp → Prop) : Prop :=
 Ct Tryd.prog 51 [(Value.agg (b6 x0).toArray)] H [] (fun v H' Fo => ∃ (r0 : Bool), v = (Value.bool r0) ∧ Fo = [] ∧ K r0 H') noQE
def A6 (x0 : Sl) (x1 : Sl) (H : Hp) (K : Bool → Hp → Prop) : Prop :=
 Ct Tryd.prog 52 [(vs x0), (vs x1)] H [] (fun v H' Fo => ∃ (r0 : Bool), v = (Value.bool r0) ∧ Fo = [] ∧ K r0 H') noQE
def a0F (x0 : h7) (x1 : h7) (H : Hp) (K : Bool → Hp → Prop) : Prop :=
 Ct Tryd.prog 84 [(Value.agg (c8 x0).toArray), (Value.agg (c8 x1).toArray)] H [] (fun v H' Fo => ∃ (r0 : Bool), v = (Value.bool r0) ∧ Fo = [] ∧ K r0 H') noQE
def h8 (x0 : Sl) (x1 : Sl) (H : Hp) (K : Bool → Hp → Prop) : Prop :=
 Ct Tryd.prog 83 [(vs x0), (vs x1), (Value.func (.func 84) #[] #[])] H [] (fun v H' Fo => ∃ (r0 : Bool), v = (Value.bool r0) ∧ Fo = [] ∧ K r0 H') noQE
def a0G (x0 : g9) (x1 : g9) (H : Hp) (K : Bool → Hp → Prop) : Prop :=
 Ct Tryd.prog 86 [(Value.agg (c6 x0).toArray), (Value.agg (c6 x1).toArray)] H [] (fun v H' Fo => ∃ (r0 : Bool), v = (Value.bool r0) ∧ Fo = [] ∧ K r0 H') noQE
def f9 (x0 : Sl) (x1 : Sl) (H : Hp) (K : Bool → Hp → Prop) : Prop :=
 Ct Tryd.prog 85 [(vs x0), (vs x1), (Value.func (.func 86) #[] #[])] H [] (fun v H' Fo => ∃ (r0 : Bool), v = (Value.bool r0) ∧ Fo = [] ∧ K r0 H') noQE
def a0H (x0 : g8) (x1 : g8) (H : Hp) (K : Bool → Hp → Prop) : Prop :=
 Ct Tryd.prog 54 [(Value.agg (b8 x0).toArray), (Value.agg (b8 x1).toArray)] H [] (fun v H' Fo => ∃ (r0 : Bool), v = (Value.bool r0) ∧ Fo = [] ∧ K r0 H') noQE
def c5 (x0 : Sl) (x1 : Sl) (H : Hp) (K : Bool → Hp → Prop) : Prop :=
 Ct Tryd.prog 53 [(vs x0), (vs x1), (Value.func (.func 54) #[] #[])] H [] (fun v H' Fo => ∃ (r0 : Bool), v = (Value.bool r0) ∧ Fo = [] ∧ K r0 H') noQE
def a3L (x0 : f6) (x1 : f6) (H : Hp) (K : Bool → Hp → Prop) : Prop :=
 Ct Tryd.prog 15 [(Value.agg (b6 x0).toArray), (Value.agg (b6 x1).toArray)] H [] (fun v H' Fo => ∃ (r0 : Bool), v = (Value.bool r0) ∧ Fo = [] ∧ K r0 H') noQE
def I8 (x0 : b4) (x1 : Int) (H : Hp) (K : Bool → b4 → Hp → Prop) : Prop :=
 ∀ (g0 : Nat), Ct Tryd.prog 91 [(Value.pointer (some ⟨g0, 0, none⟩)), (vi x1)] H [bx g0 99 (d5 x0)] (fun v H' Fo => ∃ (r0 : Bool) (y0 : b4), v = (Value.bool r0) ∧ Fo = [bx g0 99 (d5 y0)] ∧ K r0 y0 H') noQE
def M4 (x0 : b4) (x1 : h7) (x2 : Int) (H : Hp) (K : b4 → Hp → Prop) : Prop :=
 ∀ (g0 : Nat), Ct Tryd.prog 58 [(Value.pointer (some ⟨g0, 0, none⟩)), (Value.agg (c8 x1).toArray), (vi x2)] H [bx g0 99 (d5 x0)] (fun v H' Fo => ∃ (y0 : b4), v = (Value.tuple #[]) ∧ Fo = [bx g0 99 (d5 y0)] ∧ K y0 H') noQE
def R8 (x0 : b4) (x1 : g9) (x2 : Int) (H : Hp) (K : b4 → Hp → Prop) : Prop :=
 ∀ (g0 : Nat), Ct Tryd.prog 61 [(Value.pointer (some ⟨g0, 0, none⟩)), (Value.agg (c6 x1).toArray), (vi x2)] H [bx g0 99 (d5 x0)] (fun v H' Fo => ∃ (y0 : b4), v = (Value.tuple #[]) ∧ Fo = [bx g0 99 (d5 y0)] ∧ K y0 H') noQE
def M5 (x0 : b4) (x1 : g8) (x2 : Int) (H : Hp) (K : b4 → Hp → Prop) : Prop :=
 ∀ (g0 : Nat), Ct Tryd.prog 92 [(Value.pointer (some ⟨g0, 0, none⟩)), (Value.agg (b8 x1).toArray), (vi x2)] H [bx g0 99 (d5 x0)] (fun v H' Fo => ∃ (y0 : b4), v = (Value.tuple #[]) ∧ Fo = [bx g0 99 (d5 y0)] ∧ K y0 H') noQE
def a1e (x0 : f6) (H : Hp) (K : b4 → Hp → Prop) : Prop :=
 Ct Tryd.prog 63 [(Value.agg (b6 x0).toArray)] H [] (fun v H' Fo => ∃ (r0 : b4), v = (Value.agg (d5 r0).toArray) ∧ Fo = [] ∧ K r0 H') noQE
def Z8 (x0 : f6) (H : Hp) (K : Bool → Hp → Prop) : Prop :=
 Ct Tryd.prog 55 [(Value.agg (b6 x0).toArray)] H [] (fun v H' Fo => ∃ (r0 : Bool), v = (Value.bool r0) ∧ Fo = [] ∧ K r0 H') noQE
def N1 (x0 : h7) (x1 : h7) (H : Hp) (K : Bool → Hp → Prop) : Prop :=
 Ct Tryd.prog 88 [(Value.agg (c8 x0).toArray), (Value.agg (c8 x1).toArray)] H [] (fun v H' Fo => ∃ (r0 : Bool), v = (Value.bool r0) ∧ Fo = [] ∧ K r0 H') noQE
def T3 (x0 : g9) (x1 : g9) (H : Hp) (K : Bool → Hp → Prop) : Prop :=
 Ct Tryd.prog 87 [(Value.agg (c6 x0).toArray), (Value.agg (c6 x1).toArray)] H [] (fun v H' Fo => ∃ (r0 : Bool), v = (Value.bool r0) ∧ Fo = [] ∧ K r0 H') noQE
def B1 (x0 : Sl) (x1 : Sl) (H : Hp) (K : Bool → Hp → Prop) : Prop :=
 Ct Tryd.prog 56 [(vs x0), (vs x1)] H [] (fun v H' Fo => ∃ (r0 : Bool), v = (Value.bool r0) ∧ Fo = [] ∧ K r0 H') noQE
def a1o (x0 : f6) (x1 : f6) (H : Hp) (K : Bool → Hp → Prop) : Prop :=
 Ct Tryd.prog 16 [(Value.agg (b6 x0).toArray), (Value.agg (b6 x1).toArray)] H [] (fun v H' Fo => ∃ (r0 : Bool), v = (Value.bool r0) ∧ Fo = [] ∧ K r0 H') noQE
def a3C (H : Hp) (K : Bool → Hp → Prop) : Prop :=
 Ct Tryd.prog 21 [] H [] (fun v H' Fo => ∃ (r0 : Bool), v = (Value.bool r0) ∧ Fo = [] ∧ K r0 H') noQE
def a3Z (x0 : Sl) (H : Hp) (K : Int → Hp → Prop) : Prop :=
 Ct Tryd.prog 22 [(vs x0)] H [] (fun v H' Fo => ∃ (r0 : Int), v = (Value.int .u64 r0) ∧ Fo = [] ∧ K r0 H') noQE
def N7 (x0 : Int) (x1 : Int) (x2 : Int) (x3 : ByteArray) (x4 : a2d) (x5 : Sl) (x5_ : (List Int)) (H : Hp) (K : Sl → (List Int) → Hp → Prop) : Prop :=
 ∀ (g5 : Nat), ∀ (sx5_ : Sl) (Fx5_ : Frag), RowL 5 1 o0 sx5_ x5_ Fx5_ → Ct Tryd.prog 68 [(Value.int .u8 x0), (vi x1), (vi x2), (Value.string x3), (Value.agg #[(vi x4.f0), (vi x4.f1), (vi x4.f2), (vi x4.f3)]), (Value.pointer (some ⟨g5, 0, none⟩))] H [bx g5 40 [(vs sx5_)], Fx5_] (fun v H' Fo => ∃ (y0 : Sl) (y0_ : (List Int)) (sy0_ : Sl) (Fy0_ : Frag), v = (Value.tuple #[]) ∧ Fo = [bx g5 40 [(vs sy0_)], Fy0_] ∧ RowL 5 1 o0 sy0_ y0_ Fy0_ ∧ K y0 y0_ H') noQE
def U1 (x0 : h7) (x1000 : Sl) (x1000_ : (List Int)) (H : Hp) (K : Sl → (List Int) → Hp → Prop) : Prop :=
 ∀ (g1 g2 g1000 : Nat), ∀ (sx1000_ : Sl) (Fx1000_ : Frag), RowL 5 1 o0 sx1000_ x1000_ Fx1000_ → Ct Tryd.prog 69 [(Value.agg (c8 x0).toArray), (Value.pointer (some ⟨g1, 0, none⟩)), (Value.pointer (some ⟨g2, 0, none⟩))] H [bx g1 115 [(Value.func (.func 68) #[] #[(Value.pointer (some ⟨g1000, 0, none⟩))])], bx g2 103 [(Value.func (.func 69) #[] #[(Value.pointer (some ⟨g1, 0, none⟩)), (Value.pointer (some ⟨g2, 0, none⟩))])], bx g1000 40 [(vs sx1000_)], Fx1000_] (fun v H' Fo => ∃ (y0 : Sl) (y0_ : (List Int)) (sy0_ : Sl) (Fy0_ : Frag), v = (Value.tuple #[]) ∧ Fo = [bx g1 115 [(Value.func (.func 68) #[] #[(Value.pointer (some ⟨g1000, 0, none⟩))])], bx g2 103 [(Value.func (.func 69) #[] #[(Value.pointer (some ⟨g1, 0, none⟩)), (Value.pointer (some ⟨g2, 0, none⟩))])], bx g1000 40 [(vs sy0_)], Fy0_] ∧ RowL 5 1 o0 sy0_ y0_ Fy0_ ∧ K y0 y0_ H') noQE
def Z9 (x0 : g9) (x1000 : Sl) (x1000_ : (List Int)) (H : Hp) (K : Sl → (List Int) → Hp → Prop) : Prop :=
 ∀ (g1 g2 g3 g1000 : Nat), ∀ (sx1000_ : Sl) (Fx1000_ : Frag), RowL 5 1 o0 sx1000_ x1000_ Fx1000_ → Ct Tryd.prog 70 [(Value.agg (c6 x0).toArray), (Value.pointer (some ⟨g1, 0, none⟩)), (Value.pointer (some ⟨g2, 0, none⟩)), (Value.pointer (some ⟨g3, 0, none⟩))] H [bx g1 115 [(Value.func (.func 68) #[] #[(Value.pointer (some ⟨g1000, 0, none⟩))])], bx g2 103 [(Value.func (.func 69) #[] #[(Value.pointer (some ⟨g1, 0, none⟩)), (Value.pointer (some ⟨g2, 0, none⟩))])], bx g3 108 [(Value.func (.func 70) #[] #[(Value.pointer (some ⟨g1, 0, none⟩)), (Value.pointer (some ⟨g2, 0, none⟩)), (Value.pointer (some ⟨g3, 0, none⟩))])], bx g1000 40 [(vs sx1000_)], Fx1000_] (fun v H' Fo => ∃ (y0 : Sl) (y0_ : (List Int)) (sy0_ : Sl) (Fy0_ : Frag), v = (Value.tuple #[]) ∧ Fo = [bx g1 115 [(Value.func (.func 68) #[] #[(Value.pointer (some ⟨g1000, 0, none⟩))])], bx g2 103 [(Value.func (.func 69) #[] #[(Value.pointer (some ⟨g1, 0, none⟩)), (Value.pointer (some ⟨g2, 0, none⟩))])], bx g3 108 [(Value.func (.func 70) #[] #[(Value.pointer (some ⟨g1, 0, none⟩)), (Value.pointer (some ⟨g2, 0, none⟩)), (Value.pointer (some ⟨g3, 0, none⟩))])], bx g1000 40 [(vs sy0_)], Fy0_] ∧ RowL 5 1 o0 sy0_ y0_ Fy0_ ∧ K y0 y0_ H') noQE
def U2 (x0 : Sl) (x1000 : Sl) (x1000_ : (List Int)) (H : Hp) (K : Sl → (List Int) → Hp → Prop) : Prop :=
 ∀ (g1 g2 g3 g4 g1000 : Nat), ∀ (sx1000_ : Sl) (Fx1000_ : Frag), RowL 5 1 o0 sx1000_ x1000_ Fx1000_ → Ct Tryd.prog 71 [(vs x0), (Value.pointer (some ⟨g1, 0, none⟩)), (Value.pointer (some ⟨g2, 0, none⟩)), (Value.pointer (some ⟨g3, 0, none⟩)), (Value.pointer (some ⟨g4, 0, none⟩))] H [bx g1 115 [(Value.func (.func 68) #[] #[(Value.pointer (some ⟨g1000, 0, none⟩))])], bx g2 108 [(Value.func (.func 70) #[] #[(Value.pointer (some ⟨g1, 0, none⟩)), (Value.pointer (some ⟨g3, 0, none⟩)), (Value.pointer (some ⟨g2, 0, none⟩))])], bx g3 103 [(Value.func (.func 69) #[] #[(Value.pointer (some ⟨g1, 0, none⟩)), (Value.pointer (some ⟨g3, 0, none⟩))])], bx g4 116 [(Value.func (.func 71) #[] #[(Value.pointer (some ⟨g1, 0, none⟩)), (Value.pointer (some ⟨g2, 0, none⟩)), (Value.pointer (some ⟨g3, 0, none⟩)), (Value.pointer (some ⟨g4, 0, none⟩))])], bx g1000 40 [(vs sx1000_)], Fx1000_] (fun v H' Fo => ∃ (y0 : Sl) (y0_ : (List Int)) (sy0_ : Sl) (Fy0_ : Frag), v = (Value.tuple #[]) ∧ Fo = [bx g1 115 [(Value.func (.func 68) #[] #[(Value.pointer (some ⟨g1000, 0, none⟩))])], bx g2 108 [(Value.func (.func 70) #[] #[(Value.pointer (some ⟨g1, 0, none⟩)), (Value.pointer (some ⟨g3, 0, none⟩)), (Value.pointer (some ⟨g2, 0, none⟩))])], bx g3 103 [(Value.func (.func 69) #[] #[(Value.pointer (some ⟨g1, 0, none⟩)), (Value.pointer (some ⟨g3, 0, none⟩))])], bx g4 116 [(Value.func (.func 71) #[] #[(Value.pointer (some ⟨g1, 0, none⟩)), (Value.pointer (some ⟨g2, 0, none⟩)), (Value.pointer (some ⟨g3, 0, none⟩)), (Value.pointer (some ⟨g4, 0, none⟩))])], bx g1000 40 [(vs sy0_)], Fy0_] ∧ RowL 5 1 o0 sy0_ y0_ Fy0_ ∧ K y0 y0_ H') noQE
def X1 (x0 : f6) (H : Hp) (K : Sl → Int → Hp → Prop) : Prop :=
 Ct Tryd.prog 31 [(Value.agg (b6 x0).toArray)] H [] (fun v H' Fo => ∃ (r0 : Sl) (r1 : Int), v = (Value.tuple #[(vs r0), (vi r1)]) ∧ Fo = [] ∧ K r0 r1 H') noQE
def U6 (x0 : f6) (H : Hp) (K : Int → Int → Hp → Prop) : Prop :=
 Ct Tryd.prog 33 [(Value.agg (b6 x0).toArray)] H [] (fun v H' Fo => ∃ (r0 : Int) (r1 : Int), v = (Value.tuple #[(Value.int .u64 r0), (vi r1)]) ∧ Fo = [] ∧ K r0 r1 H') noQE
def a3P (x0 : Sl) (x1 : Sl) (H : Hp) (K : Bool → Hp → Prop) : Prop :=
 Ct Tryd.prog 35 [(vs x0), (vs x1)] H [] (fun v H' Fo => ∃ (r0 : Bool), v = (Value.bool r0) ∧ Fo = [] ∧ K r0 H') noQE
def R6 (x0 : f6) (x1 : f6) (H : Hp) (K : Bool → Hp → Prop) : Prop :=
 Ct Tryd.prog 43 [(Value.agg (b6 x0).toArray), (Value.agg (b6 x1).toArray)] H [] (fun v H' Fo => ∃ (r0 : Bool), v = (Value.bool r0) ∧ Fo = [] ∧ K r0 H') noQE
def W8 (x0 : f6) (x1 : f6) (H : Hp) (K : Bool → Hp → Prop) : Prop :=
 Ct Tryd.prog 11 [(Value.agg (b6 x0).toArray), (Value.agg (b6 x1).toArray)] H [] (fun v H' Fo => ∃ (r0 : Bool), v = (Value.bool r0) ∧ Fo = [] ∧ K r0 H') noQE
def a1V (x0 : E9) (H : Hp) (K : Bool → Hp → Prop) : Prop :=
 Ct Tryd.prog 148 [(Value.agg (c8 x0.i7).toArray)] H [] (fun v H' Fo => ∃ (r0 : Bool), v = (Value.bool r0) ∧ Fo = [] ∧ K r0 H') noQE
def a6k (x0 : h7) (H : Hp) (K : b9 → Hp → Prop) : Prop :=
 Ct Tryd.prog 151 [(Value.agg (c8 x0).toArray)] H [] (fun v H' Fo => ∃ (r0 : b9), v = (u2 r0) ∧ Fo = [] ∧ K r0 H') noQE
def r5 (x0 : Sl) (H : Hp) (K : Sl → Hp → Prop) : Prop :=
 Ct Tryd.prog 150 [(vs x0), (Value.func (.func 151) #[] #[])] H [] (fun v H' Fo => ∃ (r0 : Sl), v = (vs r0) ∧ Fo = [] ∧ K r0 H') noQE
def a4a (x0 : E9) (H : Hp) (K : Sl → Hp → Prop) : Prop :=
 Ct Tryd.prog 149 [(Value.agg (c8 x0.i7).toArray)] H [] (fun v H' Fo => ∃ (r0 : Sl), v = (vs r0) ∧ Fo = [] ∧ K r0 H') noQE
def a1W (x0 : L1) (H : Hp) (K : Bool → Hp → Prop) : Prop :=
 Ct Tryd.prog 152 [(Value.agg (c6 x0.i5).toArray)] H [] (fun v H' Fo => ∃ (r0 : Bool), v = (Value.bool r0) ∧ Fo = [] ∧ K r0 H') noQE
def a6l (x0 : g9) (H : Hp) (K : b9 → Hp → Prop) : Prop :=
 Ct Tryd.prog 155 [(Value.agg (c6 x0).toArray)] H [] (fun v H' Fo => ∃ (r0 : b9), v = (u2 r0) ∧ Fo = [] ∧ K r0 H') noQE
def z2 (x0 : Sl) (H : Hp) (K : Sl → Hp → Prop) : Prop :=
 Ct Tryd.prog 154 [(vs x0), (Value.func (.func 155) #[] #[])] H [] (fun v H' Fo => ∃ (r0 : Sl), v = (vs r0) ∧ Fo = [] ∧ K r0 H') noQE
def a4b (x0 : L1) (H : Hp) (K : Sl → Hp → Prop) : Prop :=
 Ct Tryd.prog 153 [(Value.agg (c6 x0.i5).toArray)] H [] (fun v H' Fo => ∃ (r0 : Sl), v = (vs r0) ∧ Fo = [] ∧ K r0 H') noQE
def a4s (x0 : N8) (H : Hp) (K : Bool → Hp → Prop) : Prop :=
 Ct Tryd.prog 156 [(Value.agg (k8 x0.M8).toArray)] H [] (fun v H' Fo => ∃ (r0 : Bool), v = (Value.bool r0) ∧ Fo = [] ∧ K r0 H') noQE
def a4c (x0 : N8) (H : Hp) (K : Sl → Hp → Prop) : Prop :=
 Ct Tryd.prog 157 [(Value.agg (k8 x0.M8).toArray)] H [] (fun v H' Fo => ∃ (r0 : Sl), v = (vs r0) ∧ Fo = [] ∧ K r0 H') noQE
def a1X (x0 : L2) (H : Hp) (K : Bool → Hp → Prop) : Prop :=
 Ct Tryd.prog 158 [(Value.agg (b8 x0.c9).toArray)] H [] (fun v H' Fo => ∃ (r0 : Bool), v = (Value.bool r0) ∧ Fo = [] ∧ K r0 H') noQE
def a4d (x0 : L2) (H : Hp) (K : Sl → Hp → Prop) : Prop :=
 Ct Tryd.prog 159 [(Value.agg (b8 x0.c9).toArray)] H [] (fun v H' Fo => ∃ (r0 : Sl), v = (vs r0) ∧ Fo = [] ∧ K r0 H') noQE
def a3f (x : b9) (H : Hp) (K : Bool → Hp → Prop) : Prop := match x with
 | .nil => False
 | .D1 y => a1V y H K
 | .J3 y => a1W y H K
 | .H9 y => a4s y H K
 | .D6 y => a1X y H K
def a2P (x : b9) (H : Hp) (K : Sl → Hp → Prop) : Prop := match x with
 | .nil => False
 | .D1 y => a4a y H K
 | .J3 y => a4b y H K
 | .H9 y => a4c y H K
 | .D6 y => a4d y H K
theorem b1i {E : Pan} {w0 w : World} {ps : Nat → Prop} {H0 H : Hp} {Fr : List Frag} {K : Value → World → Prop} {Kc : Bool → Hp → Prop} {x : b9} (I : Inv w0 ps H0 H Fr w) (h : a3f x H Kc) (hq : ∀ (r0 : Bool) (H' : Hp) (w' : World), Inv w0 ps H0 H' Fr w' → Hle H H' → (∀ i, i < w.heap.size → ¬ inF [] i → w'.heap[i]? = w.heap[i]?) → Kc r0 H' → K (Value.bool r0) w') : opK Tryd.prog E (xInvoke (u2 x) "gnomon/tree.form" []) w K := by
 cases x with
 | nil => exact h.elim
 | D1 y => exact a2T (f := 148) (args := [(Value.agg (c8 y.i7).toArray)].toArray) (by kernel_rfl) (i6 (Fi := []) I h (fun v H' Fo w' I' l hk hq' => by obtain ⟨r0, rfl, rfl, hK⟩ := hq'; exact hq r0 H' w' I' l hk hK) (fun _ _ _ _ _ q => q.elim))
 | J3 y => exact a2T (f := 152) (args := [(Value.agg (c6 y.i5).toArray)].toArray) (by kernel_rfl) (i6 (Fi := []) I h (fun v H' Fo w' I' l hk hq' => by obtain ⟨r0, rfl, rfl, hK⟩ := hq'; exact hq r0 H' w' I' l hk hK) (fun _ _ _ _ _ q => q.elim))
 | H9 y => exact a2T (f := 156) (args := [(Value.agg (k8 y.M8).toArray)].toArray) (by kernel_rfl) (i6 (Fi := []) I h (fun v H' Fo w' I' l hk hq' => by obtain ⟨r0, rfl, rfl, hK⟩ := hq'; exact hq r0 H' w' I' l hk hK) (fun _ _ _ _ _ q => q.elim))
 | D6 y => exact a2T (f := 158) (args := [(Value.agg (b8 y.c9).toArray)].toArray) (by kernel_rfl) (i6 (Fi := []) I h (fun v H' Fo w' I' l hk hq' => by obtain ⟨r0, rfl, rfl, hK⟩ := hq'; exact hq r0 H' w' I' l hk hK) (fun _ _ _ _ _ q => q.elim))
theorem b0u {E : Pan} {w0 w : World} {ps : Nat → Prop} {H0 H : Hp} {Fr : List Frag} {K : Value → World → Prop} {Kc : Sl → Hp → Prop} {x : b9} (I : Inv w0 ps H0 H Fr w) (h : a2P x H Kc) (hq : ∀ (r0 : Sl) (H' : Hp) (w' : World), Inv w0 ps H0 H' Fr w' → Hle H H' → (∀ i, i < w.heap.size → ¬ inF [] i → w'.heap[i]? = w.heap[i]?) → Kc r0 H' → K (vs r0) w') : opK Tryd.prog E (xInvoke (u2 x) "gnomon/tree.parts" []) w K := by
 cases x with
 | nil => exact h.elim
 | D1 y => exact a2T (f := 149) (args := [(Value.agg (c8 y.i7).toArray)].toArray) (by kernel_rfl) (i6 (Fi := []) I h (fun v H' Fo w' I' l hk hq' => by obtain ⟨r0, rfl, rfl, hK⟩ := hq'; exact hq r0 H' w' I' l hk hK) (fun _ _ _ _ _ q => q.elim))
 | J3 y => exact a2T (f := 153) (args := [(Value.agg (c6 y.i5).toArray)].toArray) (by kernel_rfl) (i6 (Fi := []) I h (fun v H' Fo w' I' l hk hq' => by obtain ⟨r0, rfl, rfl, hK⟩ := hq'; exact hq r0 H' w' I' l hk hK) (fun _ _ _ _ _ q => q.elim))
 | H9 y => exact a2T (f := 157) (args := [(Value.agg (k8 y.M8).toArray)].toArray) (by kernel_rfl) (i6 (Fi := []) I h (fun v H' Fo w' I' l hk hq' => by obtain ⟨r0, rfl, rfl, hK⟩ := hq'; exact hq r0 H' w' I' l hk hK) (fun _ _ _ _ _ q => q.elim))
 | D6 y => exact a2T (f := 159) (args := [(Value.agg (b8 y.c9).toArray)].toArray) (by kernel_rfl) (i6 (Fi := []) I h (fun v H' Fo w' I' l hk hq' => by obtain ⟨r0, rfl, rfl, hK⟩ := hq'; exact hq r0 H' w' I' l hk hK) (fun _ _ _ _ _ q => q.elim))
end Go.Proofs.YthldnpmfelniiaaDoor
