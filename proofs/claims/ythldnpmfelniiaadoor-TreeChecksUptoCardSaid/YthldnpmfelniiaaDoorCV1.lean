/- Contracts of the program's functions; printed by lift.py off the code. -/
import Derived.Test.YthldnpmfelniiaaDoorCU1
import Derived.Test.YthldnpmfelniiaaDoorCG1a
import Derived.Test.YthldnpmfelniiaaDoorCG1b
namespace Go.Proofs.YthldnpmfelniiaaDoor
open Go.RowKit
set_option maxRecDepth 100000
set_option maxHeartbeats 2000000
def G2 (H : Hp) (K : g5 → Hp → Prop) : Prop :=
 Ct Tryd.prog 50 [] H [] (fun v H' Fo => ∃ (r0 : g5), v = (Value.agg (d7 r0).toArray) ∧ Fo = [] ∧ K r0 H') noQE
def a7Q (x0 : B8) (H : Hp) (K : c8 → Hp → Prop) : Prop :=
 Ct Tryd.prog 96 [(Value.agg (p7 x0).toArray)] H [] (fun v H' Fo => ∃ (r0 : c8), v = (y7 r0) ∧ Fo = [] ∧ K r0 H') noQE
def G9 (x0 : Sl) (H : Hp) (K : Sl → Hp → Prop) : Prop :=
 Ct Tryd.prog 95 [(vs x0), (Value.func (.func 96) #[] #[])] H [] (fun v H' Fo => ∃ (r0 : Sl), v = (vs r0) ∧ Fo = [] ∧ K r0 H') noQE
def a7R (x0 : i4) (H : Hp) (K : c8 → Hp → Prop) : Prop :=
 Ct Tryd.prog 98 [(Value.agg (d5 x0).toArray)] H [] (fun v H' Fo => ∃ (r0 : c8), v = (y7 r0) ∧ Fo = [] ∧ K r0 H') noQE
def u2 (x0 : Sl) (H : Hp) (K : Sl → Hp → Prop) : Prop :=
 Ct Tryd.prog 97 [(vs x0), (Value.func (.func 98) #[] #[])] H [] (fun v H' Fo => ∃ (r0 : Sl), v = (vs r0) ∧ Fo = [] ∧ K r0 H') noQE
def Q5 (x1 : Int) (H : Hp) (K : (List c8) → Hp → Prop) : Prop :=
 Ct Tryd.prog 120 [(Value.slice none 0 0), (vi x1)] H [] (fun v H' Fo => ∃ (r0 : (List c8)) (sr0 : Sl) (Fr0 : Frag), v = (vs sr0) ∧ Fo = [Fr0] ∧ RowL 141 1 o8 sr0 r0 Fr0 ∧ K r0 H') noQE
def A7 (x0 : Sl) (H : Hp) (K : Sl → Hp → Prop) : Prop :=
 Ct Tryd.prog 94 [(vs x0)] H [] (fun v H' Fo => ∃ (r0 : Sl), v = (vs r0) ∧ Fo = [] ∧ K r0 H') noQE
def a2E (x0 : c8) (H : Hp) (K : ByteArray → Bool → Hp → Prop) : Prop :=
 Ct Tryd.prog 114 [(y7 x0)] H [] (fun v H' Fo => ∃ (r0 : ByteArray) (r1 : Bool), v = (Value.tuple #[(Value.string r0), (Value.bool r1)]) ∧ Fo = [] ∧ K r0 r1 H') noQE
def J8 (x0 : Int) (x1 : Int) (x2 : Int) (H : Hp) (K : Bool → Hp → Prop) : Prop :=
 ∀ (g2 : Nat), Ct Tryd.prog 131 [(Value.int .i32 x0), (Value.int .i32 x1), (Value.pointer (some ⟨g2, 0, none⟩))] H [bx g2 21 [(Value.int .i32 x2)]] (fun v H' Fo => ∃ (r0 : Bool), v = (Value.bool r0) ∧ Fo = [bx g2 21 [(Value.int .i32 x2)]] ∧ K r0 H') noQE
def a3E (x0 : Int) (H : Hp) (K : Int → Hp → Prop) : Prop :=
 Ct Tryd.prog 126 [(Value.int .i32 x0)] H [] (fun v H' Fo => ∃ (r0 : Int), v = (vi r0) ∧ Fo = [] ∧ K r0 H') noQE
def a5y (x0 : Int) (H : Hp) (K : Bool → Hp → Prop) : Prop :=
 Ct Tryd.prog 125 [(Value.int .i32 x0)] H [] (fun v H' Fo => ∃ (r0 : Bool), v = (Value.bool r0) ∧ Fo = [] ∧ K r0 H') noQE
def a5u (x0 : ByteArray) (H : Hp) (K : Bool → Hp → Prop) : Prop :=
 Ct Tryd.prog 122 [(Value.string x0)] H [] (fun v H' Fo => ∃ (r0 : Bool), v = (Value.bool r0) ∧ Fo = [] ∧ K r0 H') noQE
def a0H (x0 : ByteArray) (H : Hp) (K : Int → Hp → Prop) : Prop :=
 Ct Tryd.prog 130 [(Value.string x0)] H [] (fun v H' Fo => ∃ (r0 : Int), v = (vi r0) ∧ Fo = [] ∧ K r0 H') noQE
def a4A (x0 : ByteArray) (H : Hp) (K : Bool → Hp → Prop) : Prop :=
 Ct Tryd.prog 123 [(Value.string x0)] H [] (fun v H' Fo => ∃ (r0 : Bool), v = (Value.bool r0) ∧ Fo = [] ∧ K r0 H') noQE
def a2X (x0 : ByteArray) (H : Hp) (K : Bool → Hp → Prop) : Prop :=
 Ct Tryd.prog 124 [(Value.string x0)] H [] (fun v H' Fo => ∃ (r0 : Bool), v = (Value.bool r0) ∧ Fo = [] ∧ K r0 H') noQE
def a4B (x0 : ByteArray) (H : Hp) (K : Bool → Hp → Prop) : Prop :=
 Ct Tryd.prog 115 [(Value.string x0)] H [] (fun v H' Fo => ∃ (r0 : Bool), v = (Value.bool r0) ∧ Fo = [] ∧ K r0 H') noQE
def a1S (x0 : (List ByteArray)) (x1 : ByteArray) (H : Hp) (K : Int → Hp → Prop) : Prop :=
 ∀ (sx0 : Sl) (Fx0 : Frag), RowL 9 1 s8 sx0 x0 Fx0 → Ct Tryd.prog 127 [(vs sx0), (Value.string x1)] H [Fx0] (fun v H' Fo => ∃ (r0 : Int), v = (vi r0) ∧ Fo = [Fx0] ∧ K r0 H') noQE
def L3 (x0 : (List ByteArray)) (x1 : ByteArray) (H : Hp) (K : Bool → Hp → Prop) : Prop :=
 ∀ (sx0 : Sl) (Fx0 : Frag), RowL 9 1 s8 sx0 x0 Fx0 → Ct Tryd.prog 116 [(vs sx0), (Value.string x1)] H [Fx0] (fun v H' Fo => ∃ (r0 : Bool), v = (Value.bool r0) ∧ Fo = [Fx0] ∧ K r0 H') noQE
def a2U (x0 : g6) (a0I : (List ByteArray)) (x1 : c8) (x2 : Int) (H : Hp) (K : Bool → g6 → (List ByteArray) → Hp → Prop) : Prop :=
 ∀ (g0 : Nat), ∀ (a0h : Sl) (a4g : Frag), RowL 9 1 s8 a0h a0I a4g → Ct Tryd.prog 90 [(Value.pointer (some ⟨g0, 0, none⟩)), (y7 x1), (vi x2)] H [bx g0 92 [(vi x0.fnodes), (vi x0.fdepth), (vi x0.fe), (Value.bool x0.fform), (Value.bool x0.fnamed), (vs a0h)], a4g] (fun v H' Fo => ∃ (r0 : Bool) (y0 : g6) (a6P : (List ByteArray)) (a5f : Sl) (a5g : Frag), v = (Value.bool r0) ∧ Fo = [bx g0 92 [(vi y0.fnodes), (vi y0.fdepth), (vi y0.fe), (Value.bool y0.fform), (Value.bool y0.fnamed), (vs a5f)], a5g] ∧ RowL 9 1 s8 a5f a6P a5g ∧ K r0 y0 a6P H') noQE
def a0r (x0 : Sl) (x1 : Int) (x2 : g6) (b1o : (List ByteArray)) (H : Hp) (K : Bool → g6 → (List ByteArray) → Hp → Prop) : Prop :=
 ∀ (g2 g2b g3 : Nat), ∀ (b2F : Sl) (b2G : Frag), RowL 9 1 s8 b2F b1o b2G → Ct Tryd.prog 89 [(vs x0), (vi x1), (Value.pointer (some ⟨g2, 0, none⟩)), (Value.pointer (some ⟨g3, 0, none⟩))] H [bx g2 93 [(Value.pointer (some ⟨g2b, 0, none⟩))], bx g2b 92 [(vi x2.fnodes), (vi x2.fdepth), (vi x2.fe), (Value.bool x2.fform), (Value.bool x2.fnamed), (vs b2F)], b2G, bx g3 139 [(Value.func (.func 89) #[] #[(Value.pointer (some ⟨g2, 0, none⟩)), (Value.pointer (some ⟨g3, 0, none⟩))])]] (fun v H' Fo => ∃ (r0 : Bool) (y0 : g6) (a6P : (List ByteArray)) (a5f : Sl) (a5g : Frag), v = (Value.bool r0) ∧ Fo = [bx g2 93 [(Value.pointer (some ⟨g2b, 0, none⟩))], bx g2b 92 [(vi y0.fnodes), (vi y0.fdepth), (vi y0.fe), (Value.bool y0.fform), (Value.bool y0.fnamed), (vs a5f)], a5g, bx g3 139 [(Value.func (.func 89) #[] #[(Value.pointer (some ⟨g2, 0, none⟩)), (Value.pointer (some ⟨g3, 0, none⟩))])]] ∧ RowL 9 1 s8 a5f a6P a5g ∧ K r0 y0 a6P H') noQE
def a2Z (x0 : Sl) (H : Hp) (K : g6 → Hp → Prop) : Prop :=
 Ct Tryd.prog 57 [(vs x0)] H [] (fun v H' Fo => ∃ (r0 : g6) (gr0 : Nat), v = (Value.pointer (some ⟨gr0, 0, none⟩)) ∧ Fo = [bx gr0 92 (a6c r0)] ∧ K r0 H') noQE
def a1A (x0 : g5) (H : Hp) (K : g6 → Hp → Prop) : Prop :=
 Ct Tryd.prog 66 [(Value.agg (d7 x0).toArray)] H [] (fun v H' Fo => ∃ (r0 : g6) (gr0 : Nat), v = (Value.pointer (some ⟨gr0, 0, none⟩)) ∧ Fo = [bx gr0 92 (a6c r0)] ∧ K r0 H') noQE
def a3F (x0 : g5) (H : Hp) (K : Int → Int → Hp → Prop) : Prop :=
 Ct Tryd.prog 24 [(Value.agg (d7 x0).toArray)] H [] (fun v H' Fo => ∃ (r0 : Int) (r1 : Int), v = (Value.tuple #[(vi r0), (vi r1)]) ∧ Fo = [] ∧ K r0 r1 H') noQE
def a3G (x0 : g5) (H : Hp) (K : Int → Int → Hp → Prop) : Prop :=
 Ct Tryd.prog 25 [(Value.agg (d7 x0).toArray)] H [] (fun v H' Fo => ∃ (r0 : Int) (r1 : Int), v = (Value.tuple #[(vi r0), (vi r1)]) ∧ Fo = [] ∧ K r0 r1 H') noQE
def a5M (x0 : h9) (H : Hp) (K : Int → Hp → Prop) : Prop :=
 Ct Tryd.prog 17 [(Value.agg (f4 x0).toArray)] H [] (fun v H' Fo => ∃ (r0 : Int), v = (vi r0) ∧ Fo = [] ∧ K r0 H') noQE
def a3H (x0 : g5) (H : Hp) (K : Int → Hp → Prop) : Prop :=
 Ct Tryd.prog 27 [(Value.agg (d7 x0).toArray)] H [] (fun v H' Fo => ∃ (r0 : Int), v = (vi r0) ∧ Fo = [] ∧ K r0 H') noQE
def a2L (x0 : g5) (H : Hp) (K : Bool → Hp → Prop) : Prop :=
 Ct Tryd.prog 51 [(Value.agg (d7 x0).toArray)] H [] (fun v H' Fo => ∃ (r0 : Bool), v = (Value.bool r0) ∧ Fo = [] ∧ K r0 H') noQE
def B9 (x0 : Sl) (x1 : Sl) (H : Hp) (K : Bool → Hp → Prop) : Prop :=
 Ct Tryd.prog 52 [(vs x0), (vs x1)] H [] (fun v H' Fo => ∃ (r0 : Bool), v = (Value.bool r0) ∧ Fo = [] ∧ K r0 H') noQE
def a2m (x0 : h9) (x1 : h9) (H : Hp) (K : Bool → Hp → Prop) : Prop :=
 Ct Tryd.prog 84 [(Value.agg (f4 x0).toArray), (Value.agg (f4 x1).toArray)] H [] (fun v H' Fo => ∃ (r0 : Bool), v = (Value.bool r0) ∧ Fo = [] ∧ K r0 H') noQE
def j8 (x0 : Sl) (x1 : Sl) (H : Hp) (K : Bool → Hp → Prop) : Prop :=
 Ct Tryd.prog 83 [(vs x0), (vs x1), (Value.func (.func 84) #[] #[])] H [] (fun v H' Fo => ∃ (r0 : Bool), v = (Value.bool r0) ∧ Fo = [] ∧ K r0 H') noQE
def a2o (x0 : k4) (x1 : k4) (H : Hp) (K : Bool → Hp → Prop) : Prop :=
 Ct Tryd.prog 86 [(Value.agg (f7 x0).toArray), (Value.agg (f7 x1).toArray)] H [] (fun v H' Fo => ∃ (r0 : Bool), v = (Value.bool r0) ∧ Fo = [] ∧ K r0 H') noQE
def h8 (x0 : Sl) (x1 : Sl) (H : Hp) (K : Bool → Hp → Prop) : Prop :=
 Ct Tryd.prog 85 [(vs x0), (vs x1), (Value.func (.func 86) #[] #[])] H [] (fun v H' Fo => ∃ (r0 : Bool), v = (Value.bool r0) ∧ Fo = [] ∧ K r0 H') noQE
def a2p (x0 : i4) (x1 : i4) (H : Hp) (K : Bool → Hp → Prop) : Prop :=
 Ct Tryd.prog 54 [(Value.agg (d5 x0).toArray), (Value.agg (d5 x1).toArray)] H [] (fun v H' Fo => ∃ (r0 : Bool), v = (Value.bool r0) ∧ Fo = [] ∧ K r0 H') noQE
def d4 (x0 : Sl) (x1 : Sl) (H : Hp) (K : Bool → Hp → Prop) : Prop :=
 Ct Tryd.prog 53 [(vs x0), (vs x1), (Value.func (.func 54) #[] #[])] H [] (fun v H' Fo => ∃ (r0 : Bool), v = (Value.bool r0) ∧ Fo = [] ∧ K r0 H') noQE
def a0l (x0 : g5) (x1 : g5) (H : Hp) (K : Bool → Hp → Prop) : Prop :=
 Ct Tryd.prog 15 [(Value.agg (d7 x0).toArray), (Value.agg (d7 x1).toArray)] H [] (fun v H' Fo => ∃ (r0 : Bool), v = (Value.bool r0) ∧ Fo = [] ∧ K r0 H') noQE
def a3b (H : Hp) (K : Bool → Hp → Prop) : Prop :=
 Ct Tryd.prog 14 [] H [] (fun v H' Fo => ∃ (r0 : Bool), v = (Value.bool r0) ∧ Fo = [] ∧ K r0 H') noQE
def K4 (x0 : b8) (x1 : Int) (H : Hp) (K : Bool → b8 → Hp → Prop) : Prop :=
 ∀ (g0 : Nat), Ct Tryd.prog 91 [(Value.pointer (some ⟨g0, 0, none⟩)), (vi x1)] H [bx g0 99 (f5 x0)] (fun v H' Fo => ∃ (r0 : Bool) (y0 : b8), v = (Value.bool r0) ∧ Fo = [bx g0 99 (f5 y0)] ∧ K r0 y0 H') noQE
def O2 (x0 : b8) (x1 : h9) (x2 : Int) (H : Hp) (K : b8 → Hp → Prop) : Prop :=
 ∀ (g0 : Nat), Ct Tryd.prog 58 [(Value.pointer (some ⟨g0, 0, none⟩)), (Value.agg (f4 x1).toArray), (vi x2)] H [bx g0 99 (f5 x0)] (fun v H' Fo => ∃ (y0 : b8), v = (Value.tuple #[]) ∧ Fo = [bx g0 99 (f5 y0)] ∧ K y0 H') noQE
def W6 (x0 : b8) (x1 : k4) (x2 : Int) (H : Hp) (K : b8 → Hp → Prop) : Prop :=
 ∀ (g0 : Nat), Ct Tryd.prog 61 [(Value.pointer (some ⟨g0, 0, none⟩)), (Value.agg (f7 x1).toArray), (vi x2)] H [bx g0 99 (f5 x0)] (fun v H' Fo => ∃ (y0 : b8), v = (Value.tuple #[]) ∧ Fo = [bx g0 99 (f5 y0)] ∧ K y0 H') noQE
def O3 (x0 : b8) (x1 : i4) (x2 : Int) (H : Hp) (K : b8 → Hp → Prop) : Prop :=
 ∀ (g0 : Nat), Ct Tryd.prog 92 [(Value.pointer (some ⟨g0, 0, none⟩)), (Value.agg (d5 x1).toArray), (vi x2)] H [bx g0 99 (f5 x0)] (fun v H' Fo => ∃ (y0 : b8), v = (Value.tuple #[]) ∧ Fo = [bx g0 99 (f5 y0)] ∧ K y0 H') noQE
def a0v (x0 : g5) (H : Hp) (K : b8 → Hp → Prop) : Prop :=
 Ct Tryd.prog 63 [(Value.agg (d7 x0).toArray)] H [] (fun v H' Fo => ∃ (r0 : b8), v = (Value.agg (f5 r0).toArray) ∧ Fo = [] ∧ K r0 H') noQE
def a3w (x0 : ByteArray) (x1 : Int) (H : Hp) (K : Int → Int → Bool → Hp → Prop) : Prop :=
 Ct Tryd.prog 118 [(Value.string x0), (vi x1)] H [] (fun v H' Fo => ∃ (r0 : Int) (r1 : Int) (r2 : Bool), v = (Value.tuple #[(vi r0), (vi r1), (Value.bool r2)]) ∧ Fo = [] ∧ K r0 r1 r2 H') noQE
def q9 (x0 : Int) (x1 : Int) (x2 : Int) (H : Hp) (K : Bool → Hp → Prop) : Prop :=
 Ct Tryd.prog 128 [(vi x0), (vi x1), (vi x2)] H [] (fun v H' Fo => ∃ (r0 : Bool), v = (Value.bool r0) ∧ Fo = [] ∧ K r0 H') noQE
def a3d (x0 : Int) (H : Hp) (K : Int → Hp → Prop) : Prop :=
 Ct Tryd.prog 119 [(vi x0)] H [] (fun v H' Fo => ∃ (r0 : Int), v = (vi r0) ∧ Fo = [] ∧ K r0 H') noQE
def a3x (x0 : ByteArray) (H : Hp) (K : Bool → Hp → Prop) : Prop :=
 Ct Tryd.prog 117 [(Value.string x0)] H [] (fun v H' Fo => ∃ (r0 : Bool), v = (Value.bool r0) ∧ Fo = [] ∧ K r0 H') noQE
def a1j (x0 : ByteArray) (H : Hp) (K : Bool → Hp → Prop) : Prop :=
 Ct Tryd.prog 93 [(Value.string x0)] H [] (fun v H' Fo => ∃ (r0 : Bool), v = (Value.bool r0) ∧ Fo = [] ∧ K r0 H') noQE
def O4 (x0 : b6) (x1 : ByteArray) (x2 : Bool) (H : Hp) (K : b6 → Hp → Prop) : Prop :=
 ∀ (g0 : Nat), Ct Tryd.prog 64 [(Value.pointer (some ⟨g0, 0, none⟩)), (Value.string x1), (Value.bool x2)] H [bx g0 102 (g1 x0)] (fun v H' Fo => ∃ (y0 : b6), v = (Value.tuple #[]) ∧ Fo = [bx g0 102 (g1 y0)] ∧ K y0 H') noQE
def O5 (x0 : b6) (x1 : h9) (H : Hp) (K : b6 → Hp → Prop) : Prop :=
 ∀ (g0 : Nat), Ct Tryd.prog 59 [(Value.pointer (some ⟨g0, 0, none⟩)), (Value.agg (f4 x1).toArray)] H [bx g0 102 (g1 x0)] (fun v H' Fo => ∃ (y0 : b6), v = (Value.tuple #[]) ∧ Fo = [bx g0 102 (g1 y0)] ∧ K y0 H') noQE
def a1D (x0 : b6) (H : Hp) (K : Int → Hp → Prop) : Prop :=
 Ct Tryd.prog 60 [(Value.agg (g1 x0).toArray)] H [] (fun v H' Fo => ∃ (r0 : Int), v = (vi r0) ∧ Fo = [] ∧ K r0 H') noQE
def W7 (x0 : b6) (x1 : k4) (H : Hp) (K : b6 → Hp → Prop) : Prop :=
 ∀ (g0 : Nat), Ct Tryd.prog 62 [(Value.pointer (some ⟨g0, 0, none⟩)), (Value.agg (f7 x1).toArray)] H [bx g0 102 (g1 x0)] (fun v H' Fo => ∃ (y0 : b6), v = (Value.tuple #[]) ∧ Fo = [bx g0 102 (g1 y0)] ∧ K y0 H') noQE
def O6 (x0 : b6) (x1 : i4) (H : Hp) (K : b6 → Hp → Prop) : Prop :=
 ∀ (g0 : Nat), Ct Tryd.prog 65 [(Value.pointer (some ⟨g0, 0, none⟩)), (Value.agg (d5 x1).toArray)] H [bx g0 102 (g1 x0)] (fun v H' Fo => ∃ (y0 : b6), v = (Value.tuple #[]) ∧ Fo = [bx g0 102 (g1 y0)] ∧ K y0 H') noQE
def a3e (x0 : g5) (H : Hp) (K : Int → Hp → Prop) : Prop :=
 Ct Tryd.prog 23 [(Value.agg (d7 x0).toArray)] H [] (fun v H' Fo => ∃ (r0 : Int), v = (vi r0) ∧ Fo = [] ∧ K r0 H') noQE
def a5z (x0 : g5) (H : Hp) (K : Sl → Int → Hp → Prop) : Prop :=
 Ct Tryd.prog 26 [(Value.agg (d7 x0).toArray)] H [] (fun v H' Fo => ∃ (r0 : Sl) (r1 : Int), v = (Value.tuple #[(vs r0), (vi r1)]) ∧ Fo = [] ∧ K r0 r1 H') noQE
def a3y (x0 : g5) (H : Hp) (K : Int → Int → Hp → Prop) : Prop :=
 Ct Tryd.prog 28 [(Value.agg (d7 x0).toArray)] H [] (fun v H' Fo => ∃ (r0 : Int) (r1 : Int), v = (Value.tuple #[(vi r0), (vi r1)]) ∧ Fo = [] ∧ K r0 r1 H') noQE
def a1F (x0 : (List ByteArray)) (x1 : ByteArray) (H : Hp) (K : (List ByteArray) → Hp → Prop) : Prop :=
 ∀ (sx0 : Sl) (Fx0 : Frag), RowL 9 1 s8 sx0 x0 Fx0 → Ct Tryd.prog 67 [(vs sx0), (Value.string x1)] H [Fx0] (fun v H' Fo => ∃ (r0 : (List ByteArray)) (sr0 : Sl) (Fr0 : Frag), v = (vs sr0) ∧ Fo = [Fr0] ∧ RowL 9 1 s8 sr0 r0 Fr0 ∧ K r0 H') noQE
def P8 (x0 : (List c5)) (x1 : h9) (H : Hp) (K : (List c5) → Hp → Prop) : Prop :=
 ∀ (sx0 : Sl) (Fx0 : Frag), RowL 71 2 i8 sx0 x0 Fx0 → Ct Tryd.prog 102 [(vs sx0), (Value.agg (f4 x1).toArray)] H [Fx0] (fun v H' Fo => ∃ (r0 : (List c5)) (sr0 : Sl) (Fr0 : Frag), v = (vs sr0) ∧ Fo = [Fr0] ∧ RowL 71 2 i8 sr0 r0 Fr0 ∧ K r0 H') noQE
def Y7 (x0 : (List c5)) (x1 : k4) (H : Hp) (K : (List c5) → Hp → Prop) : Prop :=
 ∀ (sx0 : Sl) (Fx0 : Frag), RowL 71 2 i8 sx0 x0 Fx0 → Ct Tryd.prog 101 [(vs sx0), (Value.agg (f7 x1).toArray)] H [Fx0] (fun v H' Fo => ∃ (r0 : (List c5)) (sr0 : Sl) (Fr0 : Frag), v = (vs sr0) ∧ Fo = [Fr0] ∧ RowL 71 2 i8 sr0 r0 Fr0 ∧ K r0 H') noQE
def P9 (x0 : (List c5)) (x1 : Sl) (H : Hp) (K : (List c5) → Hp → Prop) : Prop :=
 ∀ (sx0 : Sl) (Fx0 : Frag), RowL 71 2 i8 sx0 x0 Fx0 → Ct Tryd.prog 74 [(vs sx0), (vs x1)] H [Fx0] (fun v H' Fo => ∃ (r0 : (List c5)) (sr0 : Sl) (Fr0 : Frag), v = (vs sr0) ∧ Fo = [Fr0] ∧ RowL 71 2 i8 sr0 r0 Fr0 ∧ K r0 H') noQE
def a3z (x0 : g5) (H : Hp) (K : Sl → Hp → Prop) : Prop :=
 Ct Tryd.prog 37 [(Value.agg (d7 x0).toArray)] H [] (fun v H' Fo => ∃ (r0 : Sl), v = (vs r0) ∧ Fo = [] ∧ K r0 H') noQE
def a3f (x0 : g5) (H : Hp) (K : Sl → Hp → Prop) : Prop :=
 Ct Tryd.prog 30 [(Value.agg (d7 x0).toArray)] H [] (fun v H' Fo => ∃ (r0 : Sl), v = (vs r0) ∧ Fo = [] ∧ K r0 H') noQE
def a0P (x0 : Sl) (x1 : Sl) (H : Hp) (K : Bool → Hp → Prop) : Prop :=
 Ct Tryd.prog 29 [(vs x0), (vs x1)] H [] (fun v H' Fo => ∃ (r0 : Bool), v = (Value.bool r0) ∧ Fo = [] ∧ K r0 H') noQE
def a1k (x0 : g5) (H : Hp) (K : Bool → Hp → Prop) : Prop :=
 Ct Tryd.prog 6 [(Value.agg (d7 x0).toArray)] H [] (fun v H' Fo => ∃ (r0 : Bool), v = (Value.bool r0) ∧ Fo = [] ∧ K r0 H') noQE
def a3S (x0 : E0) (H : Hp) (K : Bool → Hp → Prop) : Prop :=
 Ct Tryd.prog 148 [(Value.agg (f4 x0.m0).toArray)] H [] (fun v H' Fo => ∃ (r0 : Bool), v = (Value.bool r0) ∧ Fo = [] ∧ K r0 H') noQE
def a7S (x0 : h9) (H : Hp) (K : c8 → Hp → Prop) : Prop :=
 Ct Tryd.prog 151 [(Value.agg (f4 x0).toArray)] H [] (fun v H' Fo => ∃ (r0 : c8), v = (y7 r0) ∧ Fo = [] ∧ K r0 H') noQE
def u4 (x0 : Sl) (H : Hp) (K : Sl → Hp → Prop) : Prop :=
 Ct Tryd.prog 150 [(vs x0), (Value.func (.func 151) #[] #[])] H [] (fun v H' Fo => ∃ (r0 : Sl), v = (vs r0) ∧ Fo = [] ∧ K r0 H') noQE
def a5N (x0 : E0) (H : Hp) (K : Sl → Hp → Prop) : Prop :=
 Ct Tryd.prog 149 [(Value.agg (f4 x0.m0).toArray)] H [] (fun v H' Fo => ∃ (r0 : Sl), v = (vs r0) ∧ Fo = [] ∧ K r0 H') noQE
def a3T (x0 : M4) (H : Hp) (K : Bool → Hp → Prop) : Prop :=
 Ct Tryd.prog 152 [(Value.agg (f7 x0.k5).toArray)] H [] (fun v H' Fo => ∃ (r0 : Bool), v = (Value.bool r0) ∧ Fo = [] ∧ K r0 H') noQE
def a7T (x0 : k4) (H : Hp) (K : c8 → Hp → Prop) : Prop :=
 Ct Tryd.prog 155 [(Value.agg (f7 x0).toArray)] H [] (fun v H' Fo => ∃ (r0 : c8), v = (y7 r0) ∧ Fo = [] ∧ K r0 H') noQE
def B3 (x0 : Sl) (H : Hp) (K : Sl → Hp → Prop) : Prop :=
 Ct Tryd.prog 154 [(vs x0), (Value.func (.func 155) #[] #[])] H [] (fun v H' Fo => ∃ (r0 : Sl), v = (vs r0) ∧ Fo = [] ∧ K r0 H') noQE
def a5O (x0 : M4) (H : Hp) (K : Sl → Hp → Prop) : Prop :=
 Ct Tryd.prog 153 [(Value.agg (f7 x0.k5).toArray)] H [] (fun v H' Fo => ∃ (r0 : Sl), v = (vs r0) ∧ Fo = [] ∧ K r0 H') noQE
def a6k (x0 : Q7) (H : Hp) (K : Bool → Hp → Prop) : Prop :=
 Ct Tryd.prog 156 [(Value.agg (p7 x0.P2).toArray)] H [] (fun v H' Fo => ∃ (r0 : Bool), v = (Value.bool r0) ∧ Fo = [] ∧ K r0 H') noQE
def a5P (x0 : Q7) (H : Hp) (K : Sl → Hp → Prop) : Prop :=
 Ct Tryd.prog 157 [(Value.agg (p7 x0.P2).toArray)] H [] (fun v H' Fo => ∃ (r0 : Sl), v = (vs r0) ∧ Fo = [] ∧ K r0 H') noQE
def a3U (x0 : M5) (H : Hp) (K : Bool → Hp → Prop) : Prop :=
 Ct Tryd.prog 158 [(Value.agg (d5 x0.d8).toArray)] H [] (fun v H' Fo => ∃ (r0 : Bool), v = (Value.bool r0) ∧ Fo = [] ∧ K r0 H') noQE
def a5Q (x0 : M5) (H : Hp) (K : Sl → Hp → Prop) : Prop :=
 Ct Tryd.prog 159 [(Value.agg (d5 x0.d8).toArray)] H [] (fun v H' Fo => ∃ (r0 : Sl), v = (vs r0) ∧ Fo = [] ∧ K r0 H') noQE
def a5h (x : c8) (H : Hp) (K : Bool → Hp → Prop) : Prop := match x with
 | .nil => False
 | .C2 y => a3S y H K
 | .K6 y => a3T y H K
 | .J9 y => a6k y H K
 | .F8 y => a3U y H K
def a4R (x : c8) (H : Hp) (K : Sl → Hp → Prop) : Prop := match x with
 | .nil => False
 | .C2 y => a5N y H K
 | .K6 y => a5O y H K
 | .J9 y => a5P y H K
 | .F8 y => a5Q y H K
theorem b3x {E : Pan} {w0 w : World} {ps : Nat → Prop} {H0 H : Hp} {Fr : List Frag} {K : Value → World → Prop} {Kc : Bool → Hp → Prop} {x : c8} (I : Inv w0 ps H0 H Fr w) (h : a5h x H Kc) (hq : ∀ (r0 : Bool) (H' : Hp) (w' : World), Inv w0 ps H0 H' Fr w' → Hle H H' → (∀ i, i < w.heap.size → ¬ inF [] i → w'.heap[i]? = w.heap[i]?) → Kc r0 H' → K (Value.bool r0) w') : opK Tryd.prog E (xInvoke (y7 x) "gnomon/tree.form" []) w K := by
 cases x with
 | nil => exact h.elim
 | C2 y => exact a4W (f := 148) (args := [(Value.agg (f4 y.m0).toArray)].toArray) (by kernel_rfl) (i6 (Fi := []) I h (fun v H' Fo w' I' l hk hq' => by obtain ⟨r0, rfl, rfl, hK⟩ := hq'; exact hq r0 H' w' I' l hk hK) (fun _ _ _ _ _ q => q.elim))
 | K6 y => exact a4W (f := 152) (args := [(Value.agg (f7 y.k5).toArray)].toArray) (by kernel_rfl) (i6 (Fi := []) I h (fun v H' Fo w' I' l hk hq' => by obtain ⟨r0, rfl, rfl, hK⟩ := hq'; exact hq r0 H' w' I' l hk hK) (fun _ _ _ _ _ q => q.elim))
 | J9 y => exact a4W (f := 156) (args := [(Value.agg (p7 y.P2).toArray)].toArray) (by kernel_rfl) (i6 (Fi := []) I h (fun v H' Fo w' I' l hk hq' => by obtain ⟨r0, rfl, rfl, hK⟩ := hq'; exact hq r0 H' w' I' l hk hK) (fun _ _ _ _ _ q => q.elim))
 | F8 y => exact a4W (f := 158) (args := [(Value.agg (d5 y.d8).toArray)].toArray) (by kernel_rfl) (i6 (Fi := []) I h (fun v H' Fo w' I' l hk hq' => by obtain ⟨r0, rfl, rfl, hK⟩ := hq'; exact hq r0 H' w' I' l hk hK) (fun _ _ _ _ _ q => q.elim))
theorem b2Q {E : Pan} {w0 w : World} {ps : Nat → Prop} {H0 H : Hp} {Fr : List Frag} {K : Value → World → Prop} {Kc : Sl → Hp → Prop} {x : c8} (I : Inv w0 ps H0 H Fr w) (h : a4R x H Kc) (hq : ∀ (r0 : Sl) (H' : Hp) (w' : World), Inv w0 ps H0 H' Fr w' → Hle H H' → (∀ i, i < w.heap.size → ¬ inF [] i → w'.heap[i]? = w.heap[i]?) → Kc r0 H' → K (vs r0) w') : opK Tryd.prog E (xInvoke (y7 x) "gnomon/tree.parts" []) w K := by
 cases x with
 | nil => exact h.elim
 | C2 y => exact a4W (f := 149) (args := [(Value.agg (f4 y.m0).toArray)].toArray) (by kernel_rfl) (i6 (Fi := []) I h (fun v H' Fo w' I' l hk hq' => by obtain ⟨r0, rfl, rfl, hK⟩ := hq'; exact hq r0 H' w' I' l hk hK) (fun _ _ _ _ _ q => q.elim))
 | K6 y => exact a4W (f := 153) (args := [(Value.agg (f7 y.k5).toArray)].toArray) (by kernel_rfl) (i6 (Fi := []) I h (fun v H' Fo w' I' l hk hq' => by obtain ⟨r0, rfl, rfl, hK⟩ := hq'; exact hq r0 H' w' I' l hk hK) (fun _ _ _ _ _ q => q.elim))
 | J9 y => exact a4W (f := 157) (args := [(Value.agg (p7 y.P2).toArray)].toArray) (by kernel_rfl) (i6 (Fi := []) I h (fun v H' Fo w' I' l hk hq' => by obtain ⟨r0, rfl, rfl, hK⟩ := hq'; exact hq r0 H' w' I' l hk hK) (fun _ _ _ _ _ q => q.elim))
 | F8 y => exact a4W (f := 159) (args := [(Value.agg (d5 y.d8).toArray)].toArray) (by kernel_rfl) (i6 (Fi := []) I h (fun v H' Fo w' I' l hk hq' => by obtain ⟨r0, rfl, rfl, hK⟩ := hq'; exact hq r0 H' w' I' l hk hK) (fun _ _ _ _ _ q => q.elim))
end Go.Proofs.YthldnpmfelniiaaDoor
