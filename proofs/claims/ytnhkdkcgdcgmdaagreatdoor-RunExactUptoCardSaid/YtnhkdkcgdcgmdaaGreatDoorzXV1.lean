/- Contracts of the program's functions; printed by lift.py off the code. -/
import Derived.Test.YtnhkdkcgdcgmdaaGreatDoorzXU1
import Derived.Test.YtnhkdkcgdcgmdaaGreatDoorzXG1a
namespace Go.Proofs.YtnhkdkcgdcgmdaaGreatDoor
open Go.RowKit
set_option maxRecDepth 100000
set_option maxHeartbeats 2000000
def a3x (x0 : f7) (H : Hp) (K : ByteArray → Bool → Hp → Prop) : Prop :=
 Ct pG 143 [(L2 x0)] H [] (fun v H' Fo => ∃ (r0 : ByteArray) (r1 : Bool), v = (Value.tuple #[(Value.string r0), (vB r1)]) ∧ Fo = [] ∧ K r0 r1 H') noQE
def O4 (x0 : Int) (x1 : Int) (x2 : Int) (H : Hp) (K : Bool → Hp → Prop) : Prop :=
 ∀ (g2 : Nat), Ct pG 170 [(Value.int .i32 x0), (Value.int .i32 x1), (Value.pointer (some ⟨g2, 0, none⟩))] H [bx g2 21 [(Value.int .i32 x2)]] (fun v H' Fo => ∃ (r0 : Bool), v = (vB r0) ∧ Fo = [bx g2 21 [(Value.int .i32 x2)]] ∧ K r0 H') noQE
def a4M (x0 : Int) (H : Hp) (K : Int → Hp → Prop) : Prop :=
 Ct pG 166 [(Value.int .i32 x0)] H [] (fun v H' Fo => ∃ (r0 : Int), v = (vi r0) ∧ Fo = [] ∧ K r0 H') noQE
def a6E (x0 : Int) (H : Hp) (K : Bool → Hp → Prop) : Prop :=
 Ct pG 165 [(Value.int .i32 x0)] H [] (fun v H' Fo => ∃ (r0 : Bool), v = (vB r0) ∧ Fo = [] ∧ K r0 H') noQE
def a6w (x0 : ByteArray) (H : Hp) (K : Bool → Hp → Prop) : Prop :=
 Ct pG 162 [(Value.string x0)] H [] (fun v H' Fo => ∃ (r0 : Bool), v = (vB r0) ∧ Fo = [] ∧ K r0 H') noQE
def a1V (x0 : ByteArray) (H : Hp) (K : Int → Hp → Prop) : Prop :=
 Ct pG 169 [(Value.string x0)] H [] (fun v H' Fo => ∃ (r0 : Int), v = (vi r0) ∧ Fo = [] ∧ K r0 H') noQE
def a5E (x0 : ByteArray) (H : Hp) (K : Bool → Hp → Prop) : Prop :=
 Ct pG 163 [(Value.string x0)] H [] (fun v H' Fo => ∃ (r0 : Bool), v = (vB r0) ∧ Fo = [] ∧ K r0 H') noQE
def a3W (x0 : ByteArray) (H : Hp) (K : Bool → Hp → Prop) : Prop :=
 Ct pG 164 [(Value.string x0)] H [] (fun v H' Fo => ∃ (r0 : Bool), v = (vB r0) ∧ Fo = [] ∧ K r0 H') noQE
def a5F (x0 : ByteArray) (H : Hp) (K : Bool → Hp → Prop) : Prop :=
 Ct pG 144 [(Value.string x0)] H [] (fun v H' Fo => ∃ (r0 : Bool), v = (vB r0) ∧ Fo = [] ∧ K r0 H') noQE
def a3b (x0 : (List ByteArray)) (x1 : ByteArray) (H : Hp) (K : Int → Hp → Prop) : Prop :=
 ∀ (sx0 : Sl) (Fx0 : Frag), RowL 9 1 C5 sx0 x0 Fx0 → Ct pG 167 [(vs sx0), (Value.string x1)] H [Fx0] (fun v H' Fo => ∃ (r0 : Int), v = (vi r0) ∧ Fo = [Fx0] ∧ K r0 H') noQE
def Q9 (x0 : (List ByteArray)) (x1 : ByteArray) (H : Hp) (K : Bool → Hp → Prop) : Prop :=
 ∀ (sx0 : Sl) (Fx0 : Frag), RowL 9 1 C5 sx0 x0 Fx0 → Ct pG 145 [(vs sx0), (Value.string x1)] H [Fx0] (fun v H' Fo => ∃ (r0 : Bool), v = (vB r0) ∧ Fo = [Fx0] ∧ K r0 H') noQE
def a3F (x0 : p8) (f : (List ByteArray)) (x1 : f7) (x2 : Int) (H : Hp) (K : Bool → p8 → (List ByteArray) → Hp → Prop) : Prop :=
 ∀ (g0 : Nat), ∀ (a : Sl) (b : Frag), RowL 9 1 C5 a f b → Ct pG 111 [(Value.pointer (some ⟨g0, 0, none⟩)), (L2 x1), (vi x2)] H [bx g0 101 (a2X x0 a), b] (fun v H' Fo => ∃ (r0 : Bool) (y0 : p8) (c : (List ByteArray)) (d : Sl) (e : Frag), v = (vB r0) ∧ Fo = [bx g0 101 (a2X y0 d), e] ∧ RowL 9 1 C5 d c e ∧ K r0 y0 c H') noQE
def a1L (x0 : Sl) (x1 : Int) (x2 : p8) (f : (List ByteArray)) (H : Hp) (K : Bool → p8 → (List ByteArray) → Hp → Prop) : Prop :=
 ∀ (g2 g2b g3 : Nat), ∀ (a : Sl) (b : Frag), RowL 9 1 C5 a f b → Ct pG 110 [(vs x0), (vi x1), (Value.pointer (some ⟨g2, 0, none⟩)), (Value.pointer (some ⟨g3, 0, none⟩))] H [bx g2 102 [(Value.pointer (some ⟨g2b, 0, none⟩))], bx g2b 101 (a2X x2 a), b, bx g3 170 [(Value.func (.func 110) #[] #[(Value.pointer (some ⟨g2, 0, none⟩)), (Value.pointer (some ⟨g3, 0, none⟩))])]] (fun v H' Fo => ∃ (r0 : Bool) (y0 : p8) (c : (List ByteArray)) (d : Sl) (e : Frag), v = (vB r0) ∧ Fo = [bx g2 102 [(Value.pointer (some ⟨g2b, 0, none⟩))], bx g2b 101 (a2X y0 d), e, bx g3 170 [(Value.func (.func 110) #[] #[(Value.pointer (some ⟨g2, 0, none⟩)), (Value.pointer (some ⟨g3, 0, none⟩))])]] ∧ RowL 9 1 C5 d c e ∧ K r0 y0 c H') noQE
def a6a (x0 : Sl) (H : Hp) (K : p8 → Hp → Prop) : Prop :=
 Ct pG 65 [(vs x0)] H [] (fun v H' Fo => ∃ (r0 : p8) (gr0 : Nat), v = (Value.pointer (some ⟨gr0, 0, none⟩)) ∧ Fo = [bx gr0 101 (b2L r0)] ∧ K r0 H') noQE
def a7Y (x0 : Int) (x1 : Int) (H : Hp) (K : Int → Int → Hp → Prop) : Prop :=
 Ct pG 114 [(vi x0), (vi x1)] H [] (fun v H' Fo => ∃ (r0 : Int) (r1 : Int), v = (Value.tuple #[(vi r0), (vi r1)]) ∧ Fo = [] ∧ K r0 r1 H') noQE
def b0X (x0 : Int) (H : Hp) (K : Int → Int → Hp → Prop) : Prop :=
 Ct pG 112 [(vi x0)] H [] (fun v H' Fo => ∃ (r0 : Int) (r1 : Int), v = (Value.tuple #[(vi r0), (vi r1)]) ∧ Fo = [] ∧ K r0 r1 H') noQE
def b0Y (x0 : Int) (x1 : Int) (H : Hp) (K : Int → Int → Hp → Prop) : Prop :=
 Ct pG 113 [(vi x0), (vi x1)] H [] (fun v H' Fo => ∃ (r0 : Int) (r1 : Int), v = (Value.tuple #[(vi r0), (vi r1)]) ∧ Fo = [] ∧ K r0 r1 H') noQE
def a5G (x0 : Int) (H : Hp) (K : Int → Hp → Prop) : Prop :=
 Ct pG 147 [(vi x0)] H [] (fun v H' Fo => ∃ (r0 : Int), v = (Value.int .u64 r0) ∧ Fo = [] ∧ K r0 H') noQE
def a7B (x0 : Int) (x1 : Int) (H : Hp) (K : Int → Int → Hp → Prop) : Prop :=
 Ct pG 146 [(Value.int .u64 x0), (Value.int .u64 x1)] H [] (fun v H' Fo => ∃ (r0 : Int) (r1 : Int), v = (Value.tuple #[(Value.int .u64 r0), (Value.int .u64 r1)]) ∧ Fo = [] ∧ K r0 r1 H') noQE
def b0Z (x0 : Int) (x1 : Int) (H : Hp) (K : Int → Int → Hp → Prop) : Prop :=
 Ct pG 115 [(vi x0), (vi x1)] H [] (fun v H' Fo => ∃ (r0 : Int) (r1 : Int), v = (Value.tuple #[(vi r0), (vi r1)]) ∧ Fo = [] ∧ K r0 r1 H') noQE
def a3Z (x0 : Int) (x1 : Int) (H : Hp) (K : Int → Hp → Prop) : Prop :=
 Ct pG 148 [(vi x0), (vi x1)] H [] (fun v H' Fo => ∃ (r0 : Int), v = (vi r0) ∧ Fo = [] ∧ K r0 H') noQE
def b1a (x0 : Int) (x1 : Int) (H : Hp) (K : Int → Int → Hp → Prop) : Prop :=
 Ct pG 116 [(vi x0), (vi x1)] H [] (fun v H' Fo => ∃ (r0 : Int) (r1 : Int), v = (Value.tuple #[(vi r0), (vi r1)]) ∧ Fo = [] ∧ K r0 r1 H') noQE
def b1b (x0 : Int) (x1 : Int) (H : Hp) (K : Int → Int → Hp → Prop) : Prop :=
 Ct pG 117 [(vi x0), (vi x1)] H [] (fun v H' Fo => ∃ (r0 : Int) (r1 : Int), v = (Value.tuple #[(vi r0), (vi r1)]) ∧ Fo = [] ∧ K r0 r1 H') noQE
def a5N (H : Hp) (K : Hp → Prop) : Prop :=
 Ct pG 118 [] H [] (fun v H' Fo => v = (Value.agg #[(fC 149), (fC 150), (fC 151), (fC 152), (fC 153), (fC 154), (fC 155)]) ∧ Fo = [] ∧ K H') noQE
def b4n (x0 : Int) (x1 : Int) (H : Hp) (K : Bool → Hp → Prop) : Prop :=
 Ct pG 149 [(vi x0), (vi x1)] H [] (fun v H' Fo => ∃ (r0 : Bool), v = (vB r0) ∧ Fo = [] ∧ K r0 H') noQE
def a7r (x0 : Int) (x1 : Int) (H : Hp) (K : Bool → Hp → Prop) : Prop :=
 Ct pG 150 [(vi x0), (vi x1)] H [] (fun v H' Fo => ∃ (r0 : Bool), v = (vB r0) ∧ Fo = [] ∧ K r0 H') noQE
def a7s (x0 : Int) (x1 : Int) (H : Hp) (K : Bool → Hp → Prop) : Prop :=
 Ct pG 151 [(vi x0), (vi x1)] H [] (fun v H' Fo => ∃ (r0 : Bool), v = (vB r0) ∧ Fo = [] ∧ K r0 H') noQE
def a7t (x0 : Int) (x1 : Int) (H : Hp) (K : Bool → Hp → Prop) : Prop :=
 Ct pG 152 [(vi x0), (vi x1)] H [] (fun v H' Fo => ∃ (r0 : Bool), v = (vB r0) ∧ Fo = [] ∧ K r0 H') noQE
def a7u (x0 : Int) (x1 : Int) (H : Hp) (K : Bool → Hp → Prop) : Prop :=
 Ct pG 153 [(vi x0), (vi x1)] H [] (fun v H' Fo => ∃ (r0 : Bool), v = (vB r0) ∧ Fo = [] ∧ K r0 H') noQE
def a7v (x0 : Int) (x1 : Int) (H : Hp) (K : Bool → Hp → Prop) : Prop :=
 Ct pG 154 [(vi x0), (vi x1)] H [] (fun v H' Fo => ∃ (r0 : Bool), v = (vB r0) ∧ Fo = [] ∧ K r0 H') noQE
def a7w (x0 : Int) (x1 : Int) (H : Hp) (K : Bool → Hp → Prop) : Prop :=
 Ct pG 155 [(vi x0), (vi x1)] H [] (fun v H' Fo => ∃ (r0 : Bool), v = (vB r0) ∧ Fo = [] ∧ K r0 H') noQE
def b1c (x0 : Int) (x1 : Int) (x2 : Int) (H : Hp) (K : Bool → Hp → Prop) : Prop :=
 Ct pG 73 [(vi x0), (vi x1), (vi x2)] H [] (fun v H' Fo => ∃ (r0 : Bool), v = (vB r0) ∧ Fo = [] ∧ K r0 H') noQE
def a8M (x0 : i8) (H : Hp) (K : f7 → Hp → Prop) : Prop :=
 Ct pG 77 [(Value.agg (o7 x0).toArray)] H [] (fun v H' Fo => ∃ (r0 : f7), v = (L2 r0) ∧ Fo = [] ∧ K r0 H') noQE
def M5 (x0 : Sl) (H : Hp) (K : Sl → Hp → Prop) : Prop :=
 Ct pG 76 [(vs x0), (fC 77)] H [] (fun v H' Fo => ∃ (r0 : Sl), v = (vs r0) ∧ Fo = [] ∧ K r0 H') noQE
def a8N (x0 : m7) (H : Hp) (K : f7 → Hp → Prop) : Prop :=
 Ct pG 79 [(Value.agg (f8 x0).toArray)] H [] (fun v H' Fo => ∃ (r0 : f7), v = (L2 r0) ∧ Fo = [] ∧ K r0 H') noQE
def B1 (x0 : Sl) (H : Hp) (K : Sl → Hp → Prop) : Prop :=
 Ct pG 78 [(vs x0), (fC 79)] H [] (fun v H' Fo => ∃ (r0 : Sl), v = (vs r0) ∧ Fo = [] ∧ K r0 H') noQE
def U8 (x1 : Int) (H : Hp) (K : (List f7) → Hp → Prop) : Prop :=
 Ct pG 119 [(nS), (vi x1)] H [] (fun v H' Fo => ∃ (r0 : (List f7)) (sr0 : Sl) (Fr0 : Frag), v = (vs sr0) ∧ Fo = [Fr0] ∧ RowL 150 1 z7 sr0 r0 Fr0 ∧ K r0 H') noQE
def E1 (x0 : Sl) (H : Hp) (K : Sl → Hp → Prop) : Prop :=
 Ct pG 75 [(vs x0)] H [] (fun v H' Fo => ∃ (r0 : Sl), v = (vs r0) ∧ Fo = [] ∧ K r0 H') noQE
def a7C (x0 : o3) (H : Hp) (K : p8 → Hp → Prop) : Prop :=
 Ct pG 43 [(Value.agg (q7 x0).toArray)] H [] (fun v H' Fo => ∃ (r0 : p8) (gr0 : Nat), v = (Value.pointer (some ⟨gr0, 0, none⟩)) ∧ Fo = [bx gr0 101 (b2L r0)] ∧ K r0 H') noQE
def a6F (x0 : o3) (H : Hp) (K : Int → Hp → Prop) : Prop :=
 Ct pG 24 [(Value.agg (q7 x0).toArray)] H [] (fun v H' Fo => ∃ (r0 : Int), v = (vi r0) ∧ Fo = [] ∧ K r0 H') noQE
def a2C (x0 : b9) (H : Hp) (K : Int → Hp → Prop) : Prop :=
 Ct pG 50 [(Value.agg (p7 x0).toArray)] H [] (fun v H' Fo => ∃ (r0 : Int), v = (vi r0) ∧ Fo = [] ∧ K r0 H') noQE
def a4t (x0 : ByteArray) (x1 : Int) (H : Hp) (K : Int → Int → Bool → Hp → Prop) : Prop :=
 Ct pG 123 [(Value.string x0), (vi x1)] H [] (fun v H' Fo => ∃ (r0 : Int) (r1 : Int) (r2 : Bool), v = (Value.tuple #[(vi r0), (vi r1), (vB r2)]) ∧ Fo = [] ∧ K r0 r1 r2 H') noQE
def A5 (x0 : Int) (x1 : Int) (x2 : Int) (H : Hp) (K : Bool → Hp → Prop) : Prop :=
 Ct pG 156 [(vi x0), (vi x1), (vi x2)] H [] (fun v H' Fo => ∃ (r0 : Bool), v = (vB r0) ∧ Fo = [] ∧ K r0 H') noQE
def a4a (x0 : Int) (H : Hp) (K : Int → Hp → Prop) : Prop :=
 Ct pG 124 [(vi x0)] H [] (fun v H' Fo => ∃ (r0 : Int), v = (vi r0) ∧ Fo = [] ∧ K r0 H') noQE
def a4u (x0 : ByteArray) (H : Hp) (K : Bool → Hp → Prop) : Prop :=
 Ct pG 122 [(Value.string x0)] H [] (fun v H' Fo => ∃ (r0 : Bool), v = (vB r0) ∧ Fo = [] ∧ K r0 H') noQE
def a2t (x0 : ByteArray) (H : Hp) (K : Bool → Hp → Prop) : Prop :=
 Ct pG 86 [(Value.string x0)] H [] (fun v H' Fo => ∃ (r0 : Bool), v = (vB r0) ∧ Fo = [] ∧ K r0 H') noQE
def T4 (x0 : b9) (x1 : ByteArray) (x2 : Bool) (H : Hp) (K : b9 → Hp → Prop) : Prop :=
 ∀ (g0 : Nat), Ct pG 48 [(Value.pointer (some ⟨g0, 0, none⟩)), (Value.string x1), (vB x2)] H [bx g0 111 (p7 x0)] (fun v H' Fo => ∃ (y0 : b9), v = (Value.tuple #[]) ∧ Fo = [bx g0 111 (p7 y0)] ∧ K y0 H') noQE
def T5 (x0 : b9) (x1 : m2) (H : Hp) (K : b9 → Hp → Prop) : Prop :=
 ∀ (g0 : Nat), Ct pG 88 [(Value.pointer (some ⟨g0, 0, none⟩)), (Value.agg (f4 x1).toArray)] H [bx g0 111 (p7 x0)] (fun v H' Fo => ∃ (y0 : b9), v = (Value.tuple #[]) ∧ Fo = [bx g0 111 (p7 y0)] ∧ K y0 H') noQE
def a0v (x0 : b9) (x1 : o0) (H : Hp) (K : b9 → Hp → Prop) : Prop :=
 ∀ (g0 : Nat), Ct pG 87 [(Value.pointer (some ⟨g0, 0, none⟩)), (Value.agg (h9 x1).toArray)] H [bx g0 111 (p7 x0)] (fun v H' Fo => ∃ (y0 : b9), v = (Value.tuple #[]) ∧ Fo = [bx g0 111 (p7 y0)] ∧ K y0 H') noQE
def T6 (x0 : b9) (x1 : m7) (H : Hp) (K : b9 → Hp → Prop) : Prop :=
 ∀ (g0 : Nat), Ct pG 49 [(Value.pointer (some ⟨g0, 0, none⟩)), (Value.agg (f8 x1).toArray)] H [bx g0 111 (p7 x0)] (fun v H' Fo => ∃ (y0 : b9), v = (Value.tuple #[]) ∧ Fo = [bx g0 111 (p7 y0)] ∧ K y0 H') noQE
def P0 (x0 : d6) (x1 : Int) (H : Hp) (K : Bool → d6 → Hp → Prop) : Prop :=
 ∀ (g0 : Nat), Ct pG 84 [(Value.pointer (some ⟨g0, 0, none⟩)), (vi x1)] H [bx g0 108 (p5 x0)] (fun v H' Fo => ∃ (r0 : Bool) (y0 : d6), v = (vB r0) ∧ Fo = [bx g0 108 (p5 y0)] ∧ K r0 y0 H') noQE
def T7 (x0 : d6) (x1 : m2) (x2 : Int) (H : Hp) (K : d6 → Hp → Prop) : Prop :=
 ∀ (g0 : Nat), Ct pG 121 [(Value.pointer (some ⟨g0, 0, none⟩)), (Value.agg (f4 x1).toArray), (vi x2)] H [bx g0 108 (p5 x0)] (fun v H' Fo => ∃ (y0 : d6), v = (Value.tuple #[]) ∧ Fo = [bx g0 108 (p5 y0)] ∧ K y0 H') noQE
def a0w (x0 : d6) (x1 : o0) (x2 : Int) (H : Hp) (K : d6 → Hp → Prop) : Prop :=
 ∀ (g0 : Nat), Ct pG 120 [(Value.pointer (some ⟨g0, 0, none⟩)), (Value.agg (h9 x1).toArray), (vi x2)] H [bx g0 108 (p5 x0)] (fun v H' Fo => ∃ (y0 : d6), v = (Value.tuple #[]) ∧ Fo = [bx g0 108 (p5 y0)] ∧ K y0 H') noQE
def T8 (x0 : d6) (x1 : m7) (x2 : Int) (H : Hp) (K : d6 → Hp → Prop) : Prop :=
 ∀ (g0 : Nat), Ct pG 85 [(Value.pointer (some ⟨g0, 0, none⟩)), (Value.agg (f8 x1).toArray), (vi x2)] H [bx g0 108 (p5 x0)] (fun v H' Fo => ∃ (y0 : d6), v = (Value.tuple #[]) ∧ Fo = [bx g0 108 (p5 y0)] ∧ K y0 H') noQE
def a3G (x0 : o3) (H : Hp) (K : d6 → Hp → Prop) : Prop :=
 Ct pG 47 [(Value.agg (q7 x0).toArray)] H [] (fun v H' Fo => ∃ (r0 : d6), v = (Value.agg (p5 r0).toArray) ∧ Fo = [] ∧ K r0 H') noQE
def a4b (x0 : o3) (H : Hp) (K : Int → Hp → Prop) : Prop :=
 Ct pG 27 [(Value.agg (q7 x0).toArray)] H [] (fun v H' Fo => ∃ (r0 : Int), v = (vi r0) ∧ Fo = [] ∧ K r0 H') noQE
def a1u (x0 : Int) (H : Hp) (K : Int → Int → Hp → Prop) : Prop :=
 Ct pG 125 [(vi x0)] H [] (fun v H' Fo => ∃ (r0 : Int) (r1 : Int), v = (Value.tuple #[(vi r0), (vi r1)]) ∧ Fo = [] ∧ K r0 r1 H') noQE
def a4P (x0 : Int) (x1 : Int) (H : Hp) (K : Int → Int → Hp → Prop) : Prop :=
 Ct pG 126 [(vi x0), (vi x1)] H [] (fun v H' Fo => ∃ (r0 : Int) (r1 : Int), v = (Value.tuple #[(vi r0), (vi r1)]) ∧ Fo = [] ∧ K r0 r1 H') noQE
def a4Q (x0 : Int) (x1 : Int) (H : Hp) (K : Int → Int → Hp → Prop) : Prop :=
 Ct pG 127 [(vi x0), (vi x1)] H [] (fun v H' Fo => ∃ (r0 : Int) (r1 : Int), v = (Value.tuple #[(vi r0), (vi r1)]) ∧ Fo = [] ∧ K r0 r1 H') noQE
def a4R (x0 : Int) (x1 : Int) (H : Hp) (K : Int → Int → Hp → Prop) : Prop :=
 Ct pG 128 [(vi x0), (vi x1)] H [] (fun v H' Fo => ∃ (r0 : Int) (r1 : Int), v = (Value.tuple #[(vi r0), (vi r1)]) ∧ Fo = [] ∧ K r0 r1 H') noQE
def a1z (x0 : Int) (x1 : Int) (H : Hp) (K : Int → Hp → Prop) : Prop :=
 Ct pG 157 [(vi x0), (vi x1)] H [] (fun v H' Fo => ∃ (r0 : Int), v = (vi r0) ∧ Fo = [] ∧ K r0 H') noQE
def a4S (x0 : Int) (x1 : Int) (H : Hp) (K : Int → Int → Hp → Prop) : Prop :=
 Ct pG 129 [(vi x0), (vi x1)] H [] (fun v H' Fo => ∃ (r0 : Int) (r1 : Int), v = (Value.tuple #[(vi r0), (vi r1)]) ∧ Fo = [] ∧ K r0 r1 H') noQE
def a4T (x0 : Int) (x1 : Int) (H : Hp) (K : Int → Int → Hp → Prop) : Prop :=
 Ct pG 130 [(vi x0), (vi x1)] H [] (fun v H' Fo => ∃ (r0 : Int) (r1 : Int), v = (Value.tuple #[(vi r0), (vi r1)]) ∧ Fo = [] ∧ K r0 r1 H') noQE
def a3t (x0 : Int) (x1 : Int) (x2 : Int) (H : Hp) (K : Int → Int → Hp → Prop) : Prop :=
 Ct pG 98 [(vi x0), (vi x1), (vi x2)] H [] (fun v H' Fo => ∃ (r0 : Int) (r1 : Int), v = (Value.tuple #[(vi r0), (vi r1)]) ∧ Fo = [] ∧ K r0 r1 H') noQE
def a4U (x0 : Int) (x1 : Int) (x2 : Int) (H : Hp) (K : Bool → Hp → Prop) : Prop :=
 Ct pG 96 [(vi x0), (vi x1), (vi x2)] H [] (fun v H' Fo => ∃ (r0 : Bool), v = (vB r0) ∧ Fo = [] ∧ K r0 H') noQE
def a5O (x0 : o3) (x1 : Sl) (x2 : Int) (H : Hp) (K : Bool → Hp → Prop) : Prop :=
 Ct pG 5 [(Value.agg (q7 x0).toArray), (vs x1), (vi x2)] H [] (fun v H' Fo => ∃ (r0 : Bool), v = (vB r0) ∧ Fo = [] ∧ K r0 H') noQE
def b1d (x0 : o3) (x1 : Sl) (x2 : Int) (H : Hp) (K : i5 → Int → Hp → Prop) : Prop :=
 Ct pG 16 [(Value.agg (q7 x0).toArray), (vs x1), (vi x2)] H [] (fun v H' Fo => ∃ (r0 : i5) (r1 : Int), v = (Value.tuple #[(Value.agg (m9 r0).toArray), (vi r1)]) ∧ Fo = [] ∧ K r0 r1 H') noQE
def a2g (x0 : Sl) (x1 : Sl) (H : Hp) (K : Bool → Hp → Prop) : Prop :=
 Ct pG 19 [(vs x0), (vs x1)] H [] (fun v H' Fo => ∃ (r0 : Bool), v = (vB r0) ∧ Fo = [] ∧ K r0 H') noQE
def a5W (x0 : i5) (x1 : i5) (H : Hp) (K : Bool → Hp → Prop) : Prop :=
 Ct pG 18 [(Value.agg (m9 x0).toArray), (Value.agg (m9 x1).toArray)] H [] (fun v H' Fo => ∃ (r0 : Bool), v = (vB r0) ∧ Fo = [] ∧ K r0 H') noQE
def a6L (H : Hp) (K : Bool → Hp → Prop) : Prop :=
 Ct pG 14 [] H [] (fun v H' Fo => ∃ (r0 : Bool), v = (vB r0) ∧ Fo = [] ∧ K r0 H') noQE
def b1F (x0 : Sl) (x1 : Int) (H : Hp) (K : Bool → Hp → Prop) : Prop :=
 Ct pG 15 [(vs x0), (vi x1)] H [] (fun v H' Fo => ∃ (r0 : Bool), v = (vB r0) ∧ Fo = [] ∧ K r0 H') noQE
def u0 (x0 : b8) (g : (List d7)) (i : (List Int)) (j : (List (List Int))) (H : Hp) (K : Bool → Hp → Prop) : Prop :=
 ∀ (g0 : Nat), ∀ (a : Sl) (b : Frag) (c : Sl) (d : Frag) (e : Sl) (f : Frag), RowL 95 3 r8 a g b → RowL 2 1 t6 c i d → RowsL 37 2 1 t6 e j f → Ct pG 63 [(Value.pointer (some ⟨g0, 0, none⟩))] H [bx g0 91 (p9 x0 a c e), b, d, f] (fun v H' Fo => ∃ (r0 : Bool), v = (vB r0) ∧ Fo = [bx g0 91 (p9 x0 a c e), b, d, f] ∧ K r0 H') noQE
def A6 (x0 : b8) (q : (List d7)) (r : (List Int)) (s : (List (List Int))) (H : Hp) (K : Bool → b8 → (List d7) → (List Int) → (List (List Int)) → Hp → Prop) : Prop :=
 ∀ (g0 : Nat), ∀ (a : Sl) (b : Frag) (c : Sl) (d : Frag) (e : Sl) (f : Frag), RowL 95 3 r8 a q b → RowL 2 1 t6 c r d → RowsL 37 2 1 t6 e s f → Ct pG 105 [(Value.pointer (some ⟨g0, 0, none⟩))] H [bx g0 91 (p9 x0 a c e), b, d, f] (fun v H' Fo => ∃ (r0 : Bool) (y0 : b8) (g : (List d7)) (i : (List Int)) (j : (List (List Int))) (k : Sl) (l : Frag) (m : Sl) (n : Frag) (o : Sl) (p : Frag), v = (vB r0) ∧ Fo = [bx g0 91 (p9 y0 k m o), l, n, p] ∧ RowL 95 3 r8 k g l ∧ RowL 2 1 t6 m i n ∧ RowsL 37 2 1 t6 o j p ∧ K r0 y0 g i j H') noQE
def P1 (x0 : b8) (q : (List d7)) (r : (List Int)) (s : (List (List Int))) (x1 : Int) (H : Hp) (K : b8 → (List d7) → (List Int) → (List (List Int)) → Hp → Prop) : Prop :=
 ∀ (g0 : Nat), ∀ (a : Sl) (b : Frag) (c : Sl) (d : Frag) (e : Sl) (f : Frag), RowL 95 3 r8 a q b → RowL 2 1 t6 c r d → RowsL 37 2 1 t6 e s f → Ct pG 109 [(Value.pointer (some ⟨g0, 0, none⟩)), (vi x1)] H [bx g0 91 (p9 x0 a c e), b, d, f] (fun v H' Fo => ∃ (y0 : b8) (g : (List d7)) (i : (List Int)) (j : (List (List Int))) (k : Sl) (l : Frag) (m : Sl) (n : Frag) (o : Sl) (p : Frag), v = (Value.tuple #[]) ∧ Fo = [bx g0 91 (p9 y0 k m o), l, n, p] ∧ RowL 95 3 r8 k g l ∧ RowL 2 1 t6 m i n ∧ RowsL 37 2 1 t6 o j p ∧ K y0 g i j H') noQE
def a0P (x0 : m2) (H : Hp) (K : Int → Bool → Hp → Prop) : Prop :=
 Ct pG 141 [(Value.agg (f4 x0).toArray)] H [] (fun v H' Fo => ∃ (r0 : Int) (r1 : Bool), v = (Value.tuple #[(vi r0), (vB r1)]) ∧ Fo = [] ∧ K r0 r1 H') noQE
def L3 (x0 : Sl) (x1 : ByteArray) (H : Hp) (K : Int → Hp → Prop) : Prop :=
 Ct pG 142 [(vs x0), (Value.string x1)] H [] (fun v H' Fo => ∃ (r0 : Int), v = (vi r0) ∧ Fo = [] ∧ K r0 H') noQE
def a2D (x0 : b8) (q : (List d7)) (r : (List Int)) (s : (List (List Int))) (H : Hp) (K : Int → b8 → (List d7) → (List Int) → (List (List Int)) → Hp → Prop) : Prop :=
 ∀ (g0 : Nat), ∀ (a : Sl) (b : Frag) (c : Sl) (d : Frag) (e : Sl) (f : Frag), RowL 95 3 r8 a q b → RowL 2 1 t6 c r d → RowsL 37 2 1 t6 e s f → Ct pG 161 [(Value.pointer (some ⟨g0, 0, none⟩))] H [bx g0 91 (p9 x0 a c e), b, d, f] (fun v H' Fo => ∃ (r0 : Int) (y0 : b8) (g : (List d7)) (i : (List Int)) (j : (List (List Int))) (k : Sl) (l : Frag) (m : Sl) (n : Frag) (o : Sl) (p : Frag), v = (vi r0) ∧ Fo = [bx g0 91 (p9 y0 k m o), l, n, p] ∧ RowL 95 3 r8 k g l ∧ RowL 2 1 t6 m i n ∧ RowsL 37 2 1 t6 o j p ∧ K r0 y0 g i j H') noQE
def B7 (x0 : b8) (q : (List d7)) (r : (List Int)) (s : (List (List Int))) (x1 : m2) (H : Hp) (K : Int → b8 → (List d7) → (List Int) → (List (List Int)) → Hp → Prop) : Prop :=
 ∀ (g0 : Nat), ∀ (a : Sl) (b : Frag) (c : Sl) (d : Frag) (e : Sl) (f : Frag), RowL 95 3 r8 a q b → RowL 2 1 t6 c r d → RowsL 37 2 1 t6 e s f → Ct pG 140 [(Value.pointer (some ⟨g0, 0, none⟩)), (Value.agg (f4 x1).toArray)] H [bx g0 91 (p9 x0 a c e), b, d, f] (fun v H' Fo => ∃ (r0 : Int) (y0 : b8) (g : (List d7)) (i : (List Int)) (j : (List (List Int))) (k : Sl) (l : Frag) (m : Sl) (n : Frag) (o : Sl) (p : Frag), v = (vi r0) ∧ Fo = [bx g0 91 (p9 y0 k m o), l, n, p] ∧ RowL 95 3 r8 k g l ∧ RowL 2 1 t6 m i n ∧ RowsL 37 2 1 t6 o j p ∧ K r0 y0 g i j H') noQE
def A0 (x0 : b8) (q : (List d7)) (r : (List Int)) (s : (List (List Int))) (x1 : o0) (H : Hp) (K : Bool → b8 → (List d7) → (List Int) → (List (List Int)) → Hp → Prop) : Prop :=
 ∀ (g0 : Nat), ∀ (a : Sl) (b : Frag) (c : Sl) (d : Frag) (e : Sl) (f : Frag), RowL 95 3 r8 a q b → RowL 2 1 t6 c r d → RowsL 37 2 1 t6 e s f → Ct pG 108 [(Value.pointer (some ⟨g0, 0, none⟩)), (Value.agg (h9 x1).toArray)] H [bx g0 91 (p9 x0 a c e), b, d, f] (fun v H' Fo => ∃ (r0 : Bool) (y0 : b8) (g : (List d7)) (i : (List Int)) (j : (List (List Int))) (k : Sl) (l : Frag) (m : Sl) (n : Frag) (o : Sl) (p : Frag), v = (vB r0) ∧ Fo = [bx g0 91 (p9 y0 k m o), l, n, p] ∧ RowL 95 3 r8 k g l ∧ RowL 2 1 t6 m i n ∧ RowsL 37 2 1 t6 o j p ∧ K r0 y0 g i j H') noQE
def a2u (x0 : b8) (q : (List d7)) (r : (List Int)) (s : (List (List Int))) (x1 : m7) (H : Hp) (K : b8 → (List d7) → (List Int) → (List (List Int)) → Hp → Prop) : Prop :=
 ∀ (g0 : Nat), ∀ (a : Sl) (b : Frag) (c : Sl) (d : Frag) (e : Sl) (f : Frag), RowL 95 3 r8 a q b → RowL 2 1 t6 c r d → RowsL 37 2 1 t6 e s f → Ct pG 106 [(Value.pointer (some ⟨g0, 0, none⟩)), (Value.agg (f8 x1).toArray)] H [bx g0 91 (p9 x0 a c e), b, d, f] (fun v H' Fo => ∃ (y0 : b8) (g : (List d7)) (i : (List Int)) (j : (List (List Int))) (k : Sl) (l : Frag) (m : Sl) (n : Frag) (o : Sl) (p : Frag), v = (Value.tuple #[]) ∧ Fo = [bx g0 91 (p9 y0 k m o), l, n, p] ∧ RowL 95 3 r8 k g l ∧ RowL 2 1 t6 m i n ∧ RowsL 37 2 1 t6 o j p ∧ K y0 g i j H') noQE
def a2E (x0 : b8) (q : (List d7)) (r : (List Int)) (s : (List (List Int))) (x1 : m7) (H : Hp) (K : b8 → (List d7) → (List Int) → (List (List Int)) → Hp → Prop) : Prop :=
 ∀ (g0 : Nat), ∀ (a : Sl) (b : Frag) (c : Sl) (d : Frag) (e : Sl) (f : Frag), RowL 95 3 r8 a q b → RowL 2 1 t6 c r d → RowsL 37 2 1 t6 e s f → Ct pG 107 [(Value.pointer (some ⟨g0, 0, none⟩)), (Value.agg (f8 x1).toArray)] H [bx g0 91 (p9 x0 a c e), b, d, f] (fun v H' Fo => ∃ (y0 : b8) (g : (List d7)) (i : (List Int)) (j : (List (List Int))) (k : Sl) (l : Frag) (m : Sl) (n : Frag) (o : Sl) (p : Frag), v = (Value.tuple #[]) ∧ Fo = [bx g0 91 (p9 y0 k m o), l, n, p] ∧ RowL 95 3 r8 k g l ∧ RowL 2 1 t6 m i n ∧ RowsL 37 2 1 t6 o j p ∧ K y0 g i j H') noQE
def a0Q (x0 : b8) (q : (List d7)) (r : (List Int)) (s : (List (List Int))) (x1 : m7) (H : Hp) (K : b8 → (List d7) → (List Int) → (List (List Int)) → Hp → Prop) : Prop :=
 ∀ (g0 : Nat), ∀ (a : Sl) (b : Frag) (c : Sl) (d : Frag) (e : Sl) (f : Frag), RowL 95 3 r8 a q b → RowL 2 1 t6 c r d → RowsL 37 2 1 t6 e s f → Ct pG 64 [(Value.pointer (some ⟨g0, 0, none⟩)), (Value.agg (f8 x1).toArray)] H [bx g0 91 (p9 x0 a c e), b, d, f] (fun v H' Fo => ∃ (y0 : b8) (g : (List d7)) (i : (List Int)) (j : (List (List Int))) (k : Sl) (l : Frag) (m : Sl) (n : Frag) (o : Sl) (p : Frag), v = (Value.tuple #[]) ∧ Fo = [bx g0 91 (p9 y0 k m o), l, n, p] ∧ RowL 95 3 r8 k g l ∧ RowL 2 1 t6 m i n ∧ RowsL 37 2 1 t6 o j p ∧ K y0 g i j H') noQE
def E2 (x0 : b8) (q : (List d7)) (r : (List Int)) (s : (List (List Int))) (x1 : Sl) (H : Hp) (K : b8 → (List d7) → (List Int) → (List (List Int)) → Hp → Prop) : Prop :=
 ∀ (g0 : Nat), ∀ (a : Sl) (b : Frag) (c : Sl) (d : Frag) (e : Sl) (f : Frag), RowL 95 3 r8 a q b → RowL 2 1 t6 c r d → RowsL 37 2 1 t6 e s f → Ct pG 38 [(Value.pointer (some ⟨g0, 0, none⟩)), (vs x1)] H [bx g0 91 (p9 x0 a c e), b, d, f] (fun v H' Fo => ∃ (y0 : b8) (g : (List d7)) (i : (List Int)) (j : (List (List Int))) (k : Sl) (l : Frag) (m : Sl) (n : Frag) (o : Sl) (p : Frag), v = (Value.tuple #[]) ∧ Fo = [bx g0 91 (p9 y0 k m o), l, n, p] ∧ RowL 95 3 r8 k g l ∧ RowL 2 1 t6 m i n ∧ RowsL 37 2 1 t6 o j p ∧ K y0 g i j H') noQE
def a2v (x0 : Sl) (x1 : ByteArray) (H : Hp) (K : Int → Hp → Prop) : Prop :=
 Ct pG 61 [(vs x0), (Value.string x1)] H [] (fun v H' Fo => ∃ (r0 : Int), v = (vi r0) ∧ Fo = [] ∧ K r0 H') noQE
def U2 (x0 : (List d8)) (x1 : m2) (H : Hp) (K : (List d8) → Hp → Prop) : Prop :=
 ∀ (sx0 : Sl) (Fx0 : Frag), RowL 133 2 t7 sx0 x0 Fx0 → Ct pG 139 [(vs sx0), (Value.agg (f4 x1).toArray)] H [Fx0] (fun v H' Fo => ∃ (r0 : (List d8)) (sr0 : Sl) (Fr0 : Frag), v = (vs sr0) ∧ Fo = [Fr0] ∧ RowL 133 2 t7 sr0 r0 Fr0 ∧ K r0 H') noQE
def a0R (x0 : (List d8)) (x1 : o0) (H : Hp) (K : (List d8) → Hp → Prop) : Prop :=
 ∀ (sx0 : Sl) (Fx0 : Frag), RowL 133 2 t7 sx0 x0 Fx0 → Ct pG 138 [(vs sx0), (Value.agg (h9 x1).toArray)] H [Fx0] (fun v H' Fo => ∃ (r0 : (List d8)) (sr0 : Sl) (Fr0 : Frag), v = (vs sr0) ∧ Fo = [Fr0] ∧ RowL 133 2 t7 sr0 r0 Fr0 ∧ K r0 H') noQE
def U3 (x0 : (List d8)) (x1 : Sl) (H : Hp) (K : (List d8) → Hp → Prop) : Prop :=
 ∀ (sx0 : Sl) (Fx0 : Frag), RowL 133 2 t7 sx0 x0 Fx0 → Ct pG 104 [(vs sx0), (vs x1)] H [Fx0] (fun v H' Fo => ∃ (r0 : (List d8)) (sr0 : Sl) (Fr0 : Frag), v = (vs sr0) ∧ Fo = [Fr0] ∧ RowL 133 2 t7 sr0 r0 Fr0 ∧ K r0 H') noQE
def a4v (x0 : o3) (H : Hp) (K : Sl → Hp → Prop) : Prop :=
 Ct pG 62 [(Value.agg (q7 x0).toArray)] H [] (fun v H' Fo => ∃ (r0 : Sl), v = (vs r0) ∧ Fo = [] ∧ K r0 H') noQE
def a4c (x0 : o3) (H : Hp) (K : ByteArray → Int → Hp → Prop) : Prop :=
 Ct pG 35 [(Value.agg (q7 x0).toArray)] H [] (fun v H' Fo => ∃ (r0 : ByteArray) (r1 : Int), v = (Value.tuple #[(Value.string r0), (vi r1)]) ∧ Fo = [] ∧ K r0 r1 H') noQE
def a4w (x0 : o3) (H : Hp) (K : Sl → Hp → Prop) : Prop :=
 Ct pG 36 [(Value.agg (q7 x0).toArray)] H [] (fun v H' Fo => ∃ (r0 : Sl), v = (vs r0) ∧ Fo = [] ∧ K r0 H') noQE
def a3H (x0 : o3) (H : Hp) (K : Sl → Hp → Prop) : Prop :=
 Ct pG 37 [(Value.agg (q7 x0).toArray)] H [] (fun v H' Fo => ∃ (r0 : Sl), v = (vs r0) ∧ Fo = [] ∧ K r0 H') noQE
def a4V (x0 : o3) (x1 : Sl) (x2 : Int) (H : Hp) (K : i5 → Int → Hp → Prop) : Prop :=
 Ct pG 17 [(Value.agg (q7 x0).toArray), (vs x1), (vi x2)] H [] (fun v H' Fo => ∃ (r0 : i5) (r1 : Int), v = (Value.tuple #[(Value.agg (m9 r0).toArray), (vi r1)]) ∧ Fo = [] ∧ K r0 r1 H') noQE
def a7Q (x0 : Sl) (H : Hp) (K : (Option Nat) → ByteArray → Int → Hp → Prop) : Prop :=
 Ct pG 57 [(vs x0)] H [] (fun v H' Fo => ∃ (r0 : (Option Nat)) (r1 : ByteArray) (r2 : Int), v = (Value.tuple #[(Value.map r0), (Value.string r1), (vi r2)]) ∧ Fo = [] ∧ K r0 r1 r2 H') noQE
def a0l (x0 : o9) (f : (List i7)) (x1 : m2) (H : Hp) (K : o9 → (List i7) → Hp → Prop) : Prop :=
 ∀ (g0 : Nat), ∀ (a : Sl) (b : Frag), RowL 127 2 B0 a f b → Ct pG 102 [(Value.pointer (some ⟨g0, 0, none⟩)), (Value.agg (f4 x1).toArray)] H [bx g0 125 [(vs a)], b] (fun v H' Fo => ∃ (y0 : o9) (c : (List i7)) (d : Sl) (e : Frag), v = (Value.tuple #[]) ∧ Fo = [bx g0 125 [(vs d)], e] ∧ RowL 127 2 B0 d c e ∧ K y0 c H') noQE
def a2h (x0 : o9) (f : (List i7)) (x1 : o0) (H : Hp) (K : o9 → (List i7) → Hp → Prop) : Prop :=
 ∀ (g0 : Nat), ∀ (a : Sl) (b : Frag), RowL 127 2 B0 a f b → Ct pG 101 [(Value.pointer (some ⟨g0, 0, none⟩)), (Value.agg (h9 x1).toArray)] H [bx g0 125 [(vs a)], b] (fun v H' Fo => ∃ (y0 : o9) (c : (List i7)) (d : Sl) (e : Frag), v = (Value.tuple #[]) ∧ Fo = [bx g0 125 [(vs d)], e] ∧ RowL 127 2 B0 d c e ∧ K y0 c H') noQE
def Y5 (x0 : o9) (f : (List i7)) (x1 : Sl) (H : Hp) (K : o9 → (List i7) → Hp → Prop) : Prop :=
 ∀ (g0 : Nat), ∀ (a : Sl) (b : Frag), RowL 127 2 B0 a f b → Ct pG 58 [(Value.pointer (some ⟨g0, 0, none⟩)), (vs x1)] H [bx g0 125 [(vs a)], b] (fun v H' Fo => ∃ (y0 : o9) (c : (List i7)) (d : Sl) (e : Frag), v = (Value.tuple #[]) ∧ Fo = [bx g0 125 [(vs d)], e] ∧ RowL 127 2 B0 d c e ∧ K y0 c H') noQE
def a9o (x0 : o3) (H : Hp) (K : ByteArray → Int → Hp → Prop) : Prop :=
 Ct pG 33 [(Value.agg (q7 x0).toArray)] H [] (fun v H' Fo => ∃ (r0 : ByteArray) (r1 : Int), v = (Value.tuple #[(Value.string r0), (vi r1)]) ∧ Fo = [] ∧ K r0 r1 H') noQE
def a9M (x0 : i8) (H : Hp) (K : Int → Hp → Prop) : Prop :=
 Ct pG 100 [(Value.agg (o7 x0).toArray)] H [] (fun v H' Fo => ∃ (r0 : Int), v = (vi r0) ∧ Fo = [] ∧ K r0 H') noQE
def a8t (x0 : m2) (H : Hp) (K : Int → Bool → Hp → Prop) : Prop :=
 Ct pG 158 [(Value.agg (f4 x0).toArray)] H [] (fun v H' Fo => ∃ (r0 : Int) (r1 : Bool), v = (Value.tuple #[(vi r0), (vB r1)]) ∧ Fo = [] ∧ K r0 r1 H') noQE
def a4W (x0 : P3) (H : Hp) (K : Bool → Hp → Prop) : Prop :=
 Ct pG 187 [(Value.agg (f4 x0.z6).toArray)] H [] (fun v H' Fo => ∃ (r0 : Bool), v = (vB r0) ∧ Fo = [] ∧ K r0 H') noQE
def a8O (x0 : m2) (H : Hp) (K : f7 → Hp → Prop) : Prop :=
 Ct pG 190 [(Value.agg (f4 x0).toArray)] H [] (fun v H' Fo => ∃ (r0 : f7), v = (L2 r0) ∧ Fo = [] ∧ K r0 H') noQE
def B2 (x0 : Sl) (H : Hp) (K : Sl → Hp → Prop) : Prop :=
 Ct pG 189 [(vs x0), (fC 190)] H [] (fun v H' Fo => ∃ (r0 : Sl), v = (vs r0) ∧ Fo = [] ∧ K r0 H') noQE
def a6O (x0 : P3) (H : Hp) (K : Sl → Hp → Prop) : Prop :=
 Ct pG 188 [(Value.agg (f4 x0.z6).toArray)] H [] (fun v H' Fo => ∃ (r0 : Sl), v = (vs r0) ∧ Fo = [] ∧ K r0 H') noQE
def a4X (x0 : V4) (H : Hp) (K : Bool → Hp → Prop) : Prop :=
 Ct pG 191 [(Value.agg (h9 x0.u9).toArray)] H [] (fun v H' Fo => ∃ (r0 : Bool), v = (vB r0) ∧ Fo = [] ∧ K r0 H') noQE
def a8P (x0 : o0) (H : Hp) (K : f7 → Hp → Prop) : Prop :=
 Ct pG 194 [(Value.agg (h9 x0).toArray)] H [] (fun v H' Fo => ∃ (r0 : f7), v = (L2 r0) ∧ Fo = [] ∧ K r0 H') noQE
def E9 (x0 : Sl) (H : Hp) (K : Sl → Hp → Prop) : Prop :=
 Ct pG 193 [(vs x0), (fC 194)] H [] (fun v H' Fo => ∃ (r0 : Sl), v = (vs r0) ∧ Fo = [] ∧ K r0 H') noQE
def a6P (x0 : V4) (H : Hp) (K : Sl → Hp → Prop) : Prop :=
 Ct pG 192 [(Value.agg (h9 x0.u9).toArray)] H [] (fun v H' Fo => ∃ (r0 : Sl), v = (vs r0) ∧ Fo = [] ∧ K r0 H') noQE
def a7x (x0 : a0N) (H : Hp) (K : Bool → Hp → Prop) : Prop :=
 Ct pG 195 [(Value.agg (o7 x0.a1y).toArray)] H [] (fun v H' Fo => ∃ (r0 : Bool), v = (vB r0) ∧ Fo = [] ∧ K r0 H') noQE
def a6Q (x0 : a0N) (H : Hp) (K : Sl → Hp → Prop) : Prop :=
 Ct pG 196 [(Value.agg (o7 x0.a1y).toArray)] H [] (fun v H' Fo => ∃ (r0 : Sl), v = (vs r0) ∧ Fo = [] ∧ K r0 H') noQE
def a4Y (x0 : V5) (H : Hp) (K : Bool → Hp → Prop) : Prop :=
 Ct pG 197 [(Value.agg (f8 x0.m4).toArray)] H [] (fun v H' Fo => ∃ (r0 : Bool), v = (vB r0) ∧ Fo = [] ∧ K r0 H') noQE
def a6R (x0 : V5) (H : Hp) (K : Sl → Hp → Prop) : Prop :=
 Ct pG 198 [(Value.agg (f8 x0.m4).toArray)] H [] (fun v H' Fo => ∃ (r0 : Sl), v = (vs r0) ∧ Fo = [] ∧ K r0 H') noQE
def a6b (x : f7) (H : Hp) (K : Bool → Hp → Prop) : Prop := match x with
 | .nil => False
 | .L1 y => a4W y H K
 | .P8 y => a4X y H K
 | .O6 y => a7x y H K
 | .L5 y => a4Y y H K
def a5P (x : f7) (H : Hp) (K : Sl → Hp → Prop) : Prop := match x with
 | .nil => False
 | .L1 y => a6O y H K
 | .P8 y => a6P y H K
 | .O6 y => a6Q y H K
 | .L5 y => a6R y H K
theorem b2M {E : Pan} {w0 w : World} {ps : Nat → Prop} {H0 H : Hp} {Fr : List Frag} {K : RT} {Kc : Bool → Hp → Prop} {x : f7} (I : Inv w0 ps H0 H Fr w) (h : a6b x H Kc) (hq : ∀ (r0 : Bool) (H' : Hp) (w' : World), Inv w0 ps H0 H' Fr w' → Hle H H' → (∀ i, i < w.heap.size → ¬ inF [] i → w'.heap[i]? = w.heap[i]?) → Kc r0 H' → K (vB r0) w') : oP E (xInvoke (L2 x) "gnomon/tree.form" []) w K := by
 cases x with
 | nil => exact h.elim
 | L1 y => exact a5Y (f := 187) (args := [(Value.agg (f4 y.z6).toArray)].toArray) (by kernel_rfl) (R6 (Fi := []) I h (fun v H' Fo w' I' l hk hq' => by obtain ⟨r0, rfl, rfl, hK⟩ := hq'; exact hq r0 H' w' I' l hk hK) (fun _ _ _ _ _ q => q.elim))
 | P8 y => exact a5Y (f := 191) (args := [(Value.agg (h9 y.u9).toArray)].toArray) (by kernel_rfl) (R6 (Fi := []) I h (fun v H' Fo w' I' l hk hq' => by obtain ⟨r0, rfl, rfl, hK⟩ := hq'; exact hq r0 H' w' I' l hk hK) (fun _ _ _ _ _ q => q.elim))
 | O6 y => exact a5Y (f := 195) (args := [(Value.agg (o7 y.a1y).toArray)].toArray) (by kernel_rfl) (R6 (Fi := []) I h (fun v H' Fo w' I' l hk hq' => by obtain ⟨r0, rfl, rfl, hK⟩ := hq'; exact hq r0 H' w' I' l hk hK) (fun _ _ _ _ _ q => q.elim))
 | L5 y => exact a5Y (f := 197) (args := [(Value.agg (f8 y.m4).toArray)].toArray) (by kernel_rfl) (R6 (Fi := []) I h (fun v H' Fo w' I' l hk hq' => by obtain ⟨r0, rfl, rfl, hK⟩ := hq'; exact hq r0 H' w' I' l hk hK) (fun _ _ _ _ _ q => q.elim))
theorem b2u {E : Pan} {w0 w : World} {ps : Nat → Prop} {H0 H : Hp} {Fr : List Frag} {K : RT} {Kc : Sl → Hp → Prop} {x : f7} (I : Inv w0 ps H0 H Fr w) (h : a5P x H Kc) (hq : ∀ (r0 : Sl) (H' : Hp) (w' : World), Inv w0 ps H0 H' Fr w' → Hle H H' → (∀ i, i < w.heap.size → ¬ inF [] i → w'.heap[i]? = w.heap[i]?) → Kc r0 H' → K (vs r0) w') : oP E (xInvoke (L2 x) "gnomon/tree.parts" []) w K := by
 cases x with
 | nil => exact h.elim
 | L1 y => exact a5Y (f := 188) (args := [(Value.agg (f4 y.z6).toArray)].toArray) (by kernel_rfl) (R6 (Fi := []) I h (fun v H' Fo w' I' l hk hq' => by obtain ⟨r0, rfl, rfl, hK⟩ := hq'; exact hq r0 H' w' I' l hk hK) (fun _ _ _ _ _ q => q.elim))
 | P8 y => exact a5Y (f := 192) (args := [(Value.agg (h9 y.u9).toArray)].toArray) (by kernel_rfl) (R6 (Fi := []) I h (fun v H' Fo w' I' l hk hq' => by obtain ⟨r0, rfl, rfl, hK⟩ := hq'; exact hq r0 H' w' I' l hk hK) (fun _ _ _ _ _ q => q.elim))
 | O6 y => exact a5Y (f := 196) (args := [(Value.agg (o7 y.a1y).toArray)].toArray) (by kernel_rfl) (R6 (Fi := []) I h (fun v H' Fo w' I' l hk hq' => by obtain ⟨r0, rfl, rfl, hK⟩ := hq'; exact hq r0 H' w' I' l hk hK) (fun _ _ _ _ _ q => q.elim))
 | L5 y => exact a5Y (f := 198) (args := [(Value.agg (f8 y.m4).toArray)].toArray) (by kernel_rfl) (R6 (Fi := []) I h (fun v H' Fo w' I' l hk hq' => by obtain ⟨r0, rfl, rfl, hK⟩ := hq'; exact hq r0 H' w' I' l hk hK) (fun _ _ _ _ _ q => q.elim))
end Go.Proofs.YtnhkdkcgdcgmdaaGreatDoor
