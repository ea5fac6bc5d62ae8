/- Contracts of the program's functions; printed by lift.py off the code. -/
import Derived.Test.YtaokfhdinhimfaaDooryTU1
import Derived.Test.YtaokfhdinhimfaaDooryTG1a
import Derived.Test.YtaokfhdinhimfaaDooryTG1b
namespace Go.Proofs.YtaokfhdinhimfaaDoor
open Go.RowKit
set_option maxRecDepth 100000
set_option maxHeartbeats 2000000
def a0K (x0 : o8) (H : Hp) (K : D3 → Int → Hp → Prop) : Prop :=
 Ct Tryd.prog 7 [(Value.agg (m5 x0).toArray)] H [] (fun v H' Fo => ∃ (r0 : D3) (r1 : Int), v = (Value.tuple #[(Value.agg (A4 r0).toArray), (vi r1)]) ∧ Fo = [] ∧ K r0 r1 H') noQE
def T1 (H : Hp) (K : Bool → Hp → Prop) : Prop :=
 Ct Tryd.prog 6 [] H [] (fun v H' Fo => ∃ (r0 : Bool), v = (Value.bool r0) ∧ Fo = [] ∧ K r0 H') noQE
def O6 (x0 : Int) (H : Hp) (K : Bool → Hp → Prop) : Prop :=
 Ct Tryd.prog 3 [(vi x0)] H [] (fun v H' Fo => ∃ (r0 : Bool), v = (Value.bool r0) ∧ Fo = [] ∧ K r0 H') noQE
def a1F (x0 : Int) (H : Hp) (K : Int → Hp → Prop) : Prop :=
 Ct Tryd.prog 40 [(vi x0)] H [] (fun v H' Fo => ∃ (r0 : Int), v = (vi r0) ∧ Fo = [] ∧ K r0 H') noQE
def N5 (H : Hp) (K : j7 → Hp → Prop) : Prop :=
 Ct Tryd.prog 39 [] H [] (fun v H' Fo => ∃ (r0 : j7), v = (Value.agg (m1 r0).toArray) ∧ Fo = [] ∧ K r0 H') noQE
def a1G (x0 : o8) (x1 : Int) (H : Hp) (K : Sl → Int → Hp → Prop) : Prop :=
 Ct Tryd.prog 18 [(Value.agg (m5 x0).toArray), (vi x1)] H [] (fun v H' Fo => ∃ (r0 : Sl) (r1 : Int), v = (Value.tuple #[(vs r0), (vi r1)]) ∧ Fo = [] ∧ K r0 r1 H') noQE
def a2J (x0 : o8) (H : Hp) (K : Sl → Int → Hp → Prop) : Prop :=
 Ct Tryd.prog 10 [(Value.agg (m5 x0).toArray)] H [] (fun v H' Fo => ∃ (r0 : Sl) (r1 : Int), v = (Value.tuple #[(vs r0), (vi r1)]) ∧ Fo = [] ∧ K r0 r1 H') noQE
def a1X (x0 : o8) (H : Hp) (K : Sl → Int → Hp → Prop) : Prop :=
 Ct Tryd.prog 11 [(Value.agg (m5 x0).toArray)] H [] (fun v H' Fo => ∃ (r0 : Sl) (r1 : Int), v = (Value.tuple #[(vs r0), (vi r1)]) ∧ Fo = [] ∧ K r0 r1 H') noQE
def r6 (x0 : d2) (f : (List c8)) (H : Hp) (K : Int → d2 → (List c8) → Hp → Prop) : Prop :=
 ∀ (g0 : Nat), ∀ (a : Sl) (b : Frag), RowL 46 10 g9 a f b → Ct Tryd.prog 12 [(Value.pointer (some ⟨g0, 0, none⟩))] H [bx g0 59 (i6 x0 a), b] (fun v H' Fo => ∃ (r0 : Int) (y0 : d2) (c : (List c8)) (d : Sl) (e : Frag), v = (vi r0) ∧ Fo = [bx g0 59 (i6 y0 d), e] ∧ RowL 46 10 g9 d c e ∧ K r0 y0 c H') noQE
def L0 (x0 : d2) (c : (List c8)) (x1 : d8) (H : Hp) (K : j7 → Bool → Hp → Prop) : Prop :=
 ∀ (g0 : Nat), ∀ (a : Sl) (b : Frag), RowL 46 10 g9 a c b → Ct Tryd.prog 45 [(Value.pointer (some ⟨g0, 0, none⟩)), (Value.agg (d9 x1).toArray)] H [bx g0 59 (i6 x0 a), b] (fun v H' Fo => ∃ (r0 : j7) (r1 : Bool), v = (Value.tuple #[(Value.agg (m1 r0).toArray), (Value.bool r1)]) ∧ Fo = [bx g0 59 (i6 x0 a), b] ∧ K r0 r1 H') noQE
def o5 (x0 : d2) (f : (List c8)) (x1 : c8) (H : Hp) (K : d2 → (List c8) → Hp → Prop) : Prop :=
 ∀ (g0 : Nat), ∀ (a : Sl) (b : Frag), RowL 46 10 g9 a f b → Ct Tryd.prog 31 [(Value.pointer (some ⟨g0, 0, none⟩)), (Value.agg (g9 x1).toArray)] H [bx g0 59 (i6 x0 a), b] (fun v H' Fo => ∃ (y0 : d2) (c : (List c8)) (d : Sl) (e : Frag), v = (Value.tuple #[]) ∧ Fo = [bx g0 59 (i6 y0 d), e] ∧ RowL 46 10 g9 d c e ∧ K y0 c H') noQE
def a0B (x0 : Int) (H : Hp) (K : Int → Hp → Prop) : Prop :=
 Ct Tryd.prog 52 [(vi x0)] H [] (fun v H' Fo => ∃ (r0 : Int), v = (vi r0) ∧ Fo = [] ∧ K r0 H') noQE
def B1 (x0 : Int) (x1 : Int) (x2 : Int) (H : Hp) (K : c8 → Hp → Prop) : Prop :=
 Ct Tryd.prog 29 [(vi x0), (vi x1), (vi x2)] H [] (fun v H' Fo => ∃ (r0 : c8), v = (Value.agg (g9 r0).toArray) ∧ Fo = [] ∧ K r0 H') noQE
def T2 (x0 : d2) (f : (List c8)) (x1 : Int) (H : Hp) (K : Int → d2 → (List c8) → Hp → Prop) : Prop :=
 ∀ (g0 : Nat), ∀ (a : Sl) (b : Frag), RowL 46 10 g9 a f b → Ct Tryd.prog 53 [(Value.pointer (some ⟨g0, 0, none⟩)), (vi x1)] H [bx g0 59 (i6 x0 a), b] (fun v H' Fo => ∃ (r0 : Int) (y0 : d2) (c : (List c8)) (d : Sl) (e : Frag), v = (vi r0) ∧ Fo = [bx g0 59 (i6 y0 d), e] ∧ RowL 46 10 g9 d c e ∧ K r0 y0 c H') noQE
def D5 (x0 : d2) (f : (List c8)) (x1 : d8) (x2 : Int) (x3 : Int) (H : Hp) (K : j7 → Int → d2 → (List c8) → Hp → Prop) : Prop :=
 ∀ (g0 : Nat), ∀ (a : Sl) (b : Frag), RowL 46 10 g9 a f b → Ct Tryd.prog 47 [(Value.pointer (some ⟨g0, 0, none⟩)), (Value.agg (d9 x1).toArray), (vi x2), (vi x3)] H [bx g0 59 (i6 x0 a), b] (fun v H' Fo => ∃ (r0 : j7) (r1 : Int) (y0 : d2) (c : (List c8)) (d : Sl) (e : Frag), v = (Value.tuple #[(Value.agg (m1 r0).toArray), (vi r1)]) ∧ Fo = [bx g0 59 (i6 y0 d), e] ∧ RowL 46 10 g9 d c e ∧ K r0 r1 y0 c H') noQE
def Q3 (x0 : d2) (c : (List c8)) (x1 : j7) (x2 : Int) (H : Hp) (K : Int → Hp → Prop) : Prop :=
 ∀ (g0 : Nat), ∀ (a : Sl) (b : Frag), RowL 46 10 g9 a c b → Ct Tryd.prog 48 [(Value.pointer (some ⟨g0, 0, none⟩)), (Value.agg (m1 x1).toArray), (vi x2)] H [bx g0 59 (i6 x0 a), b] (fun v H' Fo => ∃ (r0 : Int), v = (vi r0) ∧ Fo = [bx g0 59 (i6 x0 a), b] ∧ K r0 H') noQE
def J3 (x0 : d2) (f : (List c8)) (x1 : Sl) (x2 : Int) (x3 : Int) (H : Hp) (K : j7 → j7 → Int → d2 → (List c8) → Hp → Prop) : Prop :=
 ∀ (g0 : Nat), ∀ (a : Sl) (b : Frag), RowL 46 10 g9 a f b → Ct Tryd.prog 30 [(Value.pointer (some ⟨g0, 0, none⟩)), (vs x1), (vi x2), (vi x3)] H [bx g0 59 (i6 x0 a), b] (fun v H' Fo => ∃ (r0 : j7) (r1 : j7) (r2 : Int) (y0 : d2) (c : (List c8)) (d : Sl) (e : Frag), v = (Value.tuple #[(Value.agg (m1 r0).toArray), (Value.agg (m1 r1).toArray), (vi r2)]) ∧ Fo = [bx g0 59 (i6 y0 d), e] ∧ RowL 46 10 g9 d c e ∧ K r0 r1 r2 y0 c H') noQE
def M1 (x0 : d2) (f : (List c8)) (x1 : d8) (x2 : Int) (x3 : Int) (x4 : Int) (x5 : Int) (H : Hp) (K : d2 → (List c8) → Hp → Prop) : Prop :=
 ∀ (g0 : Nat), ∀ (a : Sl) (b : Frag), RowL 46 10 g9 a f b → Ct Tryd.prog 46 [(Value.pointer (some ⟨g0, 0, none⟩)), (Value.agg (d9 x1).toArray), (vi x2), (vi x3), (vi x4), (vi x5)] H [bx g0 59 (i6 x0 a), b] (fun v H' Fo => ∃ (y0 : d2) (c : (List c8)) (d : Sl) (e : Frag), v = (Value.tuple #[]) ∧ Fo = [bx g0 59 (i6 y0 d), e] ∧ RowL 46 10 g9 d c e ∧ K y0 c H') noQE
def Q4 (x0 : d2) (f : (List c8)) (x1 : Int) (x2 : d8) (x3 : Int) (x4 : Int) (H : Hp) (K : d2 → (List c8) → Hp → Prop) : Prop :=
 ∀ (g0 : Nat), ∀ (a : Sl) (b : Frag), RowL 46 10 g9 a f b → Ct Tryd.prog 28 [(Value.pointer (some ⟨g0, 0, none⟩)), (vi x1), (Value.agg (d9 x2).toArray), (vi x3), (vi x4)] H [bx g0 59 (i6 x0 a), b] (fun v H' Fo => ∃ (y0 : d2) (c : (List c8)) (d : Sl) (e : Frag), v = (Value.tuple #[]) ∧ Fo = [bx g0 59 (i6 y0 d), e] ∧ RowL 46 10 g9 d c e ∧ K y0 c H') noQE
def D8 (x0 : d2) (f : (List c8)) (x1 : Sl) (x2 : Int) (H : Hp) (K : Int → d2 → (List c8) → Hp → Prop) : Prop :=
 ∀ (g0 : Nat), ∀ (a : Sl) (b : Frag), RowL 46 10 g9 a f b → Ct Tryd.prog 32 [(Value.pointer (some ⟨g0, 0, none⟩)), (vs x1), (vi x2)] H [bx g0 59 (i6 x0 a), b] (fun v H' Fo => ∃ (r0 : Int) (y0 : d2) (c : (List c8)) (d : Sl) (e : Frag), v = (vi r0) ∧ Fo = [bx g0 59 (i6 y0 d), e] ∧ RowL 46 10 g9 d c e ∧ K r0 y0 c H') noQE
def p6 (x0 : d2) (f : (List c8)) (x1 : m2) (x2 : Int) (x3 : Int) (x4 : Int) (H : Hp) (K : d2 → (List c8) → Hp → Prop) : Prop :=
 ∀ (g0 : Nat), ∀ (a : Sl) (b : Frag), RowL 46 10 g9 a f b → Ct Tryd.prog 33 [(Value.pointer (some ⟨g0, 0, none⟩)), (Value.agg (i4 x1).toArray), (vi x2), (vi x3), (vi x4)] H [bx g0 59 (i6 x0 a), b] (fun v H' Fo => ∃ (y0 : d2) (c : (List c8)) (d : Sl) (e : Frag), v = (Value.tuple #[]) ∧ Fo = [bx g0 59 (i6 y0 d), e] ∧ RowL 46 10 g9 d c e ∧ K y0 c H') noQE
def T3 (x0 : d2) (f : (List c8)) (x1 : l9) (x2 : Int) (x3 : Int) (H : Hp) (K : d2 → (List c8) → Hp → Prop) : Prop :=
 ∀ (g0 : Nat), ∀ (a : Sl) (b : Frag), RowL 46 10 g9 a f b → Ct Tryd.prog 19 [(Value.pointer (some ⟨g0, 0, none⟩)), (Value.agg (l0 x1).toArray), (vi x2), (vi x3)] H [bx g0 59 (i6 x0 a), b] (fun v H' Fo => ∃ (y0 : d2) (c : (List c8)) (d : Sl) (e : Frag), v = (Value.tuple #[]) ∧ Fo = [bx g0 59 (i6 y0 d), e] ∧ RowL 46 10 g9 d c e ∧ K y0 c H') noQE
def B9 (x0 : d2) (f : (List c8)) (x1 : Sl) (x2 : Int) (x3 : Int) (H : Hp) (K : d2 → (List c8) → Hp → Prop) : Prop :=
 ∀ (g0 : Nat), ∀ (a : Sl) (b : Frag), RowL 46 10 g9 a f b → Ct Tryd.prog 13 [(Value.pointer (some ⟨g0, 0, none⟩)), (vs x1), (vi x2), (vi x3)] H [bx g0 59 (i6 x0 a), b] (fun v H' Fo => ∃ (y0 : d2) (c : (List c8)) (d : Sl) (e : Frag), v = (Value.tuple #[]) ∧ Fo = [bx g0 59 (i6 y0 d), e] ∧ RowL 46 10 g9 d c e ∧ K y0 c H') noQE
def a1Y (x0 : i8) (H : Hp) (K : c7 → Hp → Prop) : Prop :=
 Ct Tryd.prog 57 [(Value.agg (f7 x0).toArray)] H [] (fun v H' Fo => ∃ (r0 : c7), v = (u9 r0) ∧ Fo = [] ∧ K r0 H') noQE
def y3 (x0 : Sl) (H : Hp) (K : Sl → Hp → Prop) : Prop :=
 Ct Tryd.prog 56 [(vs x0), (Value.func (.func 57) #[] #[])] H [] (fun v H' Fo => ∃ (r0 : Sl), v = (vs r0) ∧ Fo = [] ∧ K r0 H') noQE
def a1Z (x0 : l9) (H : Hp) (K : c7 → Hp → Prop) : Prop :=
 Ct Tryd.prog 59 [(Value.agg (l0 x0).toArray)] H [] (fun v H' Fo => ∃ (r0 : c7), v = (u9 r0) ∧ Fo = [] ∧ K r0 H') noQE
def m8 (x0 : Sl) (H : Hp) (K : Sl → Hp → Prop) : Prop :=
 Ct Tryd.prog 58 [(vs x0), (Value.func (.func 59) #[] #[])] H [] (fun v H' Fo => ∃ (r0 : Sl), v = (vs r0) ∧ Fo = [] ∧ K r0 H') noQE
def D9 (x1 : Int) (H : Hp) (K : (List c7) → Hp → Prop) : Prop :=
 Ct Tryd.prog 62 [(Value.slice none 0 0), (vi x1)] H [] (fun v H' Fo => ∃ (r0 : (List c7)) (sr0 : Sl) (Fr0 : Frag), v = (vs sr0) ∧ Fo = [Fr0] ∧ RowL 126 1 j8 sr0 r0 Fr0 ∧ K r0 H') noQE
def r5 (x0 : Sl) (H : Hp) (K : Sl → Hp → Prop) : Prop :=
 Ct Tryd.prog 55 [(vs x0)] H [] (fun v H' Fo => ∃ (r0 : Sl), v = (vs r0) ∧ Fo = [] ∧ K r0 H') noQE
def Q5 (x0 : c7) (H : Hp) (K : ByteArray → Bool → Hp → Prop) : Prop :=
 Ct Tryd.prog 63 [(u9 x0)] H [] (fun v H' Fo => ∃ (r0 : ByteArray) (r1 : Bool), v = (Value.tuple #[(Value.string r0), (Value.bool r1)]) ∧ Fo = [] ∧ K r0 r1 H') noQE
def A5 (x0 : Int) (x1 : Int) (x2 : Int) (H : Hp) (K : Bool → Hp → Prop) : Prop :=
 ∀ (g2 : Nat), Ct Tryd.prog 74 [(Value.int .i32 x0), (Value.int .i32 x1), (Value.pointer (some ⟨g2, 0, none⟩))] H [bx g2 21 [(Value.int .i32 x2)]] (fun v H' Fo => ∃ (r0 : Bool), v = (Value.bool r0) ∧ Fo = [bx g2 21 [(Value.int .i32 x2)]] ∧ K r0 H') noQE
def W2 (x0 : Int) (H : Hp) (K : Int → Hp → Prop) : Prop :=
 Ct Tryd.prog 70 [(Value.int .i32 x0)] H [] (fun v H' Fo => ∃ (r0 : Int), v = (vi r0) ∧ Fo = [] ∧ K r0 H') noQE
def a0C (x0 : Int) (H : Hp) (K : Bool → Hp → Prop) : Prop :=
 Ct Tryd.prog 69 [(Value.int .i32 x0)] H [] (fun v H' Fo => ∃ (r0 : Bool), v = (Value.bool r0) ∧ Fo = [] ∧ K r0 H') noQE
def a0A (x0 : ByteArray) (H : Hp) (K : Bool → Hp → Prop) : Prop :=
 Ct Tryd.prog 66 [(Value.string x0)] H [] (fun v H' Fo => ∃ (r0 : Bool), v = (Value.bool r0) ∧ Fo = [] ∧ K r0 H') noQE
def L2 (x0 : ByteArray) (H : Hp) (K : Int → Hp → Prop) : Prop :=
 Ct Tryd.prog 73 [(Value.string x0)] H [] (fun v H' Fo => ∃ (r0 : Int), v = (vi r0) ∧ Fo = [] ∧ K r0 H') noQE
def a1q (x0 : ByteArray) (H : Hp) (K : Bool → Hp → Prop) : Prop :=
 Ct Tryd.prog 67 [(Value.string x0)] H [] (fun v H' Fo => ∃ (r0 : Bool), v = (Value.bool r0) ∧ Fo = [] ∧ K r0 H') noQE
def a1r (x0 : ByteArray) (H : Hp) (K : Bool → Hp → Prop) : Prop :=
 Ct Tryd.prog 68 [(Value.string x0)] H [] (fun v H' Fo => ∃ (r0 : Bool), v = (Value.bool r0) ∧ Fo = [] ∧ K r0 H') noQE
def Y8 (x0 : ByteArray) (H : Hp) (K : Bool → Hp → Prop) : Prop :=
 Ct Tryd.prog 64 [(Value.string x0)] H [] (fun v H' Fo => ∃ (r0 : Bool), v = (Value.bool r0) ∧ Fo = [] ∧ K r0 H') noQE
def O7 (x0 : (List ByteArray)) (x1 : ByteArray) (H : Hp) (K : Int → Hp → Prop) : Prop :=
 ∀ (sx0 : Sl) (Fx0 : Frag), RowL 9 1 r9 sx0 x0 Fx0 → Ct Tryd.prog 71 [(vs sx0), (Value.string x1)] H [Fx0] (fun v H' Fo => ∃ (r0 : Int), v = (vi r0) ∧ Fo = [Fx0] ∧ K r0 H') noQE
def E9 (x0 : (List ByteArray)) (x1 : ByteArray) (H : Hp) (K : Bool → Hp → Prop) : Prop :=
 ∀ (sx0 : Sl) (Fx0 : Frag), RowL 9 1 r9 sx0 x0 Fx0 → Ct Tryd.prog 65 [(vs sx0), (Value.string x1)] H [Fx0] (fun v H' Fo => ∃ (r0 : Bool), v = (Value.bool r0) ∧ Fo = [Fx0] ∧ K r0 H') noQE
def R6 (x0 : f8) (f : (List ByteArray)) (x1 : c7) (x2 : Int) (H : Hp) (K : Bool → f8 → (List ByteArray) → Hp → Prop) : Prop :=
 ∀ (g0 : Nat), ∀ (a : Sl) (b : Frag), RowL 9 1 r9 a f b → Ct Tryd.prog 61 [(Value.pointer (some ⟨g0, 0, none⟩)), (u9 x1), (vi x2)] H [bx g0 116 (O5 x0 a), b] (fun v H' Fo => ∃ (r0 : Bool) (y0 : f8) (c : (List ByteArray)) (d : Sl) (e : Frag), v = (Value.bool r0) ∧ Fo = [bx g0 116 (O5 y0 d), e] ∧ RowL 9 1 r9 d c e ∧ K r0 y0 c H') noQE
def K8 (x0 : Sl) (x1 : Int) (x2 : f8) (f : (List ByteArray)) (H : Hp) (K : Bool → f8 → (List ByteArray) → Hp → Prop) : Prop :=
 ∀ (g2 g2b g3 : Nat), ∀ (a : Sl) (b : Frag), RowL 9 1 r9 a f b → Ct Tryd.prog 60 [(vs x0), (vi x1), (Value.pointer (some ⟨g2, 0, none⟩)), (Value.pointer (some ⟨g3, 0, none⟩))] H [bx g2 117 [(Value.pointer (some ⟨g2b, 0, none⟩))], bx g2b 116 (O5 x2 a), b, bx g3 132 [(Value.func (.func 60) #[] #[(Value.pointer (some ⟨g2, 0, none⟩)), (Value.pointer (some ⟨g3, 0, none⟩))])]] (fun v H' Fo => ∃ (r0 : Bool) (y0 : f8) (c : (List ByteArray)) (d : Sl) (e : Frag), v = (Value.bool r0) ∧ Fo = [bx g2 117 [(Value.pointer (some ⟨g2b, 0, none⟩))], bx g2b 116 (O5 y0 d), e, bx g3 132 [(Value.func (.func 60) #[] #[(Value.pointer (some ⟨g2, 0, none⟩)), (Value.pointer (some ⟨g3, 0, none⟩))])]] ∧ RowL 9 1 r9 d c e ∧ K r0 y0 c H') noQE
def a0h (x0 : Sl) (H : Hp) (K : f8 → Hp → Prop) : Prop :=
 Ct Tryd.prog 54 [(vs x0)] H [] (fun v H' Fo => ∃ (r0 : f8) (gr0 : Nat), v = (Value.pointer (some ⟨gr0, 0, none⟩)) ∧ Fo = [bx gr0 116 (a4K r0)] ∧ K r0 H') noQE
def a1s (x0 : o8) (H : Hp) (K : f8 → Hp → Prop) : Prop :=
 Ct Tryd.prog 49 [(Value.agg (m5 x0).toArray)] H [] (fun v H' Fo => ∃ (r0 : f8) (gr0 : Nat), v = (Value.pointer (some ⟨gr0, 0, none⟩)) ∧ Fo = [bx gr0 116 (a4K r0)] ∧ K r0 H') noQE
def a0D (x0 : o8) (H : Hp) (K : Int → Hp → Prop) : Prop :=
 Ct Tryd.prog 41 [(Value.agg (m5 x0).toArray)] H [] (fun v H' Fo => ∃ (r0 : Int), v = (vi r0) ∧ Fo = [] ∧ K r0 H') noQE
def a1B (x0 : Sl) (H : Hp) (K : (Option Nat) → ByteArray → Int → Hp → Prop) : Prop :=
 Ct Tryd.prog 42 [(vs x0)] H [] (fun v H' Fo => ∃ (r0 : (Option Nat)) (r1 : ByteArray) (r2 : Int), v = (Value.tuple #[(Value.map r0), (Value.string r1), (vi r2)]) ∧ Fo = [] ∧ K r0 r1 r2 H') noQE
def G3 (x0 : f4) (f : (List d4)) (x1 : d8) (H : Hp) (K : f4 → (List d4) → Hp → Prop) : Prop :=
 ∀ (g0 : Nat), ∀ (a : Sl) (b : Frag), RowL 106 2 o4 a f b → Ct Tryd.prog 51 [(Value.pointer (some ⟨g0, 0, none⟩)), (Value.agg (d9 x1).toArray)] H [bx g0 103 [(vs a)], b] (fun v H' Fo => ∃ (y0 : f4) (c : (List d4)) (d : Sl) (e : Frag), v = (Value.tuple #[]) ∧ Fo = [bx g0 103 [(vs d)], e] ∧ RowL 106 2 o4 d c e ∧ K y0 c H') noQE
def M2 (x0 : f4) (f : (List d4)) (x1 : m2) (H : Hp) (K : f4 → (List d4) → Hp → Prop) : Prop :=
 ∀ (g0 : Nat), ∀ (a : Sl) (b : Frag), RowL 106 2 o4 a f b → Ct Tryd.prog 50 [(Value.pointer (some ⟨g0, 0, none⟩)), (Value.agg (i4 x1).toArray)] H [bx g0 103 [(vs a)], b] (fun v H' Fo => ∃ (y0 : f4) (c : (List d4)) (d : Sl) (e : Frag), v = (Value.tuple #[]) ∧ Fo = [bx g0 103 [(vs d)], e] ∧ RowL 106 2 o4 d c e ∧ K y0 c H') noQE
def E8 (x0 : f4) (f : (List d4)) (x1 : Sl) (H : Hp) (K : f4 → (List d4) → Hp → Prop) : Prop :=
 ∀ (g0 : Nat), ∀ (a : Sl) (b : Frag), RowL 106 2 o4 a f b → Ct Tryd.prog 43 [(Value.pointer (some ⟨g0, 0, none⟩)), (vs x1)] H [bx g0 103 [(vs a)], b] (fun v H' Fo => ∃ (y0 : f4) (c : (List d4)) (d : Sl) (e : Frag), v = (Value.tuple #[]) ∧ Fo = [bx g0 103 [(vs d)], e] ∧ RowL 106 2 o4 d c e ∧ K y0 c H') noQE
def a2j (x0 : o8) (H : Hp) (K : ByteArray → Int → Hp → Prop) : Prop :=
 Ct Tryd.prog 23 [(Value.agg (m5 x0).toArray)] H [] (fun v H' Fo => ∃ (r0 : ByteArray) (r1 : Int), v = (Value.tuple #[(Value.string r0), (vi r1)]) ∧ Fo = [] ∧ K r0 r1 H') noQE
def a2K (x0 : i8) (H : Hp) (K : Int → Hp → Prop) : Prop :=
 Ct Tryd.prog 27 [(Value.agg (f7 x0).toArray)] H [] (fun v H' Fo => ∃ (r0 : Int), v = (vi r0) ∧ Fo = [] ∧ K r0 H') noQE
def a1p (x0 : J9) (H : Hp) (K : Bool → Hp → Prop) : Prop :=
 Ct Tryd.prog 91 [(Value.agg (f7 x0.M0).toArray)] H [] (fun v H' Fo => ∃ (r0 : Bool), v = (Value.bool r0) ∧ Fo = [] ∧ K r0 H') noQE
def a0L (x0 : J9) (H : Hp) (K : Sl → Hp → Prop) : Prop :=
 Ct Tryd.prog 92 [(Value.agg (f7 x0.M0).toArray)] H [] (fun v H' Fo => ∃ (r0 : Sl), v = (vs r0) ∧ Fo = [] ∧ K r0 H') noQE
def W4 (x0 : E4) (H : Hp) (K : Bool → Hp → Prop) : Prop :=
 Ct Tryd.prog 93 [(Value.agg (l0 x0.d6).toArray)] H [] (fun v H' Fo => ∃ (r0 : Bool), v = (Value.bool r0) ∧ Fo = [] ∧ K r0 H') noQE
def a2b (x0 : m2) (H : Hp) (K : c7 → Hp → Prop) : Prop :=
 Ct Tryd.prog 96 [(Value.agg (i4 x0).toArray)] H [] (fun v H' Fo => ∃ (r0 : c7), v = (u9 r0) ∧ Fo = [] ∧ K r0 H') noQE
def r8 (x0 : Sl) (H : Hp) (K : Sl → Hp → Prop) : Prop :=
 Ct Tryd.prog 95 [(vs x0), (Value.func (.func 96) #[] #[])] H [] (fun v H' Fo => ∃ (r0 : Sl), v = (vs r0) ∧ Fo = [] ∧ K r0 H') noQE
def a2d (x0 : d8) (H : Hp) (K : c7 → Hp → Prop) : Prop :=
 Ct Tryd.prog 98 [(Value.agg (d9 x0).toArray)] H [] (fun v H' Fo => ∃ (r0 : c7), v = (u9 r0) ∧ Fo = [] ∧ K r0 H') noQE
def m9 (x0 : Sl) (H : Hp) (K : Sl → Hp → Prop) : Prop :=
 Ct Tryd.prog 97 [(vs x0), (Value.func (.func 98) #[] #[])] H [] (fun v H' Fo => ∃ (r0 : Sl), v = (vs r0) ∧ Fo = [] ∧ K r0 H') noQE
def a0M (x0 : E4) (H : Hp) (K : Sl → Hp → Prop) : Prop :=
 Ct Tryd.prog 94 [(Value.agg (l0 x0.d6).toArray)] H [] (fun v H' Fo => ∃ (r0 : Sl), v = (vs r0) ∧ Fo = [] ∧ K r0 H') noQE
def W5 (x0 : B2) (H : Hp) (K : Bool → Hp → Prop) : Prop :=
 Ct Tryd.prog 99 [(Value.agg (d9 x0.j9).toArray)] H [] (fun v H' Fo => ∃ (r0 : Bool), v = (Value.bool r0) ∧ Fo = [] ∧ K r0 H') noQE
def a0N (x0 : B2) (H : Hp) (K : Sl → Hp → Prop) : Prop :=
 Ct Tryd.prog 100 [(Value.agg (d9 x0.j9).toArray)] H [] (fun v H' Fo => ∃ (r0 : Sl), v = (vs r0) ∧ Fo = [] ∧ K r0 H') noQE
def W6 (x0 : E5) (H : Hp) (K : Bool → Hp → Prop) : Prop :=
 Ct Tryd.prog 102 [(Value.agg (i4 x0.j6).toArray)] H [] (fun v H' Fo => ∃ (r0 : Bool), v = (Value.bool r0) ∧ Fo = [] ∧ K r0 H') noQE
def a0O (x0 : E5) (H : Hp) (K : Sl → Hp → Prop) : Prop :=
 Ct Tryd.prog 103 [(Value.agg (i4 x0.j6).toArray)] H [] (fun v H' Fo => ∃ (r0 : Sl), v = (vs r0) ∧ Fo = [] ∧ K r0 H') noQE
def a0i (x : c7) (H : Hp) (K : Bool → Hp → Prop) : Prop := match x with
 | .nil => False
 | .A6 y => a1p y H K
 | .v7 y => W4 y H K
 | .u7 y => W5 y H K
 | .B3 y => W6 y H K
def Z9 (x : c7) (H : Hp) (K : Sl → Hp → Prop) : Prop := match x with
 | .nil => False
 | .A6 y => a0L y H K
 | .v7 y => a0M y H K
 | .u7 y => a0N y H K
 | .B3 y => a0O y H K
theorem a4L {E : Pan} {w0 w : World} {ps : Nat → Prop} {H0 H : Hp} {Fr : List Frag} {K : Value → World → Prop} {Kc : Bool → Hp → Prop} {x : c7} (I : Inv w0 ps H0 H Fr w) (h : a0i x H Kc) (hq : ∀ (r0 : Bool) (H' : Hp) (w' : World), Inv w0 ps H0 H' Fr w' → Hle H H' → (∀ i, i < w.heap.size → ¬ inF [] i → w'.heap[i]? = w.heap[i]?) → Kc r0 H' → K (Value.bool r0) w') : opK Tryd.prog E (xInvoke (u9 x) "gnomon/tree.form" []) w K := by
 cases x with
 | nil => exact h.elim
 | A6 y => exact Y0 (f := 91) (args := [(Value.agg (f7 y.M0).toArray)].toArray) (by kernel_rfl) (W1 (Fi := []) I h (fun v H' Fo w' I' l hk hq' => by obtain ⟨r0, rfl, rfl, hK⟩ := hq'; exact hq r0 H' w' I' l hk hK) (fun _ _ _ _ _ q => q.elim))
 | v7 y => exact Y0 (f := 93) (args := [(Value.agg (l0 y.d6).toArray)].toArray) (by kernel_rfl) (W1 (Fi := []) I h (fun v H' Fo w' I' l hk hq' => by obtain ⟨r0, rfl, rfl, hK⟩ := hq'; exact hq r0 H' w' I' l hk hK) (fun _ _ _ _ _ q => q.elim))
 | u7 y => exact Y0 (f := 99) (args := [(Value.agg (d9 y.j9).toArray)].toArray) (by kernel_rfl) (W1 (Fi := []) I h (fun v H' Fo w' I' l hk hq' => by obtain ⟨r0, rfl, rfl, hK⟩ := hq'; exact hq r0 H' w' I' l hk hK) (fun _ _ _ _ _ q => q.elim))
 | B3 y => exact Y0 (f := 102) (args := [(Value.agg (i4 y.j6).toArray)].toArray) (by kernel_rfl) (W1 (Fi := []) I h (fun v H' Fo w' I' l hk hq' => by obtain ⟨r0, rfl, rfl, hK⟩ := hq'; exact hq r0 H' w' I' l hk hK) (fun _ _ _ _ _ q => q.elim))
theorem a4z {E : Pan} {w0 w : World} {ps : Nat → Prop} {H0 H : Hp} {Fr : List Frag} {K : Value → World → Prop} {Kc : Sl → Hp → Prop} {x : c7} (I : Inv w0 ps H0 H Fr w) (h : Z9 x H Kc) (hq : ∀ (r0 : Sl) (H' : Hp) (w' : World), Inv w0 ps H0 H' Fr w' → Hle H H' → (∀ i, i < w.heap.size → ¬ inF [] i → w'.heap[i]? = w.heap[i]?) → Kc r0 H' → K (vs r0) w') : opK Tryd.prog E (xInvoke (u9 x) "gnomon/tree.parts" []) w K := by
 cases x with
 | nil => exact h.elim
 | A6 y => exact Y0 (f := 92) (args := [(Value.agg (f7 y.M0).toArray)].toArray) (by kernel_rfl) (W1 (Fi := []) I h (fun v H' Fo w' I' l hk hq' => by obtain ⟨r0, rfl, rfl, hK⟩ := hq'; exact hq r0 H' w' I' l hk hK) (fun _ _ _ _ _ q => q.elim))
 | v7 y => exact Y0 (f := 94) (args := [(Value.agg (l0 y.d6).toArray)].toArray) (by kernel_rfl) (W1 (Fi := []) I h (fun v H' Fo w' I' l hk hq' => by obtain ⟨r0, rfl, rfl, hK⟩ := hq'; exact hq r0 H' w' I' l hk hK) (fun _ _ _ _ _ q => q.elim))
 | u7 y => exact Y0 (f := 100) (args := [(Value.agg (d9 y.j9).toArray)].toArray) (by kernel_rfl) (W1 (Fi := []) I h (fun v H' Fo w' I' l hk hq' => by obtain ⟨r0, rfl, rfl, hK⟩ := hq'; exact hq r0 H' w' I' l hk hK) (fun _ _ _ _ _ q => q.elim))
 | B3 y => exact Y0 (f := 103) (args := [(Value.agg (i4 y.j6).toArray)].toArray) (by kernel_rfl) (W1 (Fi := []) I h (fun v H' Fo w' I' l hk hq' => by obtain ⟨r0, rfl, rfl, hK⟩ := hq'; exact hq r0 H' w' I' l hk hK) (fun _ _ _ _ _ q => q.elim))
end Go.Proofs.YtaokfhdinhimfaaDoor
