/- Contracts of the program's functions; printed by lift.py off the code. -/
import Derived.Test.YtaokfhdinhimfaaDoorySU1
import Derived.Test.YtaokfhdinhimfaaDoorySG1a
import Derived.Test.YtaokfhdinhimfaaDoorySG1b
namespace Go.Proofs.YtaokfhdinhimfaaDoor
open Go.RowKit
set_option maxRecDepth 100000
set_option maxHeartbeats 2000000
def a2A (x0 : m6) (H : Hp) (K : m0 → Int → Hp → Prop) : Prop :=
 Ct Tryd.prog 7 [(Value.agg (p9 x0).toArray)] H [] (fun v H' Fo => ∃ (r0 : m0) (r1 : Int), v = (Value.tuple #[(Value.agg (j6 r0).toArray), (vi r1)]) ∧ Fo = [] ∧ K r0 r1 H') noQE
def Y0 (H : Hp) (K : Bool → Hp → Prop) : Prop :=
 Ct Tryd.prog 6 [] H [] (fun v H' Fo => ∃ (r0 : Bool), v = (Value.bool r0) ∧ Fo = [] ∧ K r0 H') noQE
def a0j (x0 : Int) (H : Hp) (K : Int → Hp → Prop) : Prop :=
 Ct Tryd.prog 40 [(vi x0)] H [] (fun v H' Fo => ∃ (r0 : Int), v = (vi r0) ∧ Fo = [] ∧ K r0 H') noQE
def a3m (x0 : Sl) (H : Hp) (K : Bool → Hp → Prop) : Prop :=
 Ct Tryd.prog 22 [(vs x0)] H [] (fun v H' Fo => ∃ (r0 : Bool), v = (Value.bool r0) ∧ Fo = [] ∧ K r0 H') noQE
def L8 (x0 : d8) (x1 : Int) (H : Hp) (K : Bool → Hp → Prop) : Prop :=
 Ct Tryd.prog 20 [(Value.agg (j6 x0.m7).toArray), (vi x1)] H [] (fun v H' Fo => ∃ (r0 : Bool), v = (Value.bool r0) ∧ Fo = [] ∧ K r0 H') noQE
def a1D (x0 : Int) (H : Hp) (K : f3 → Hp → Prop) : Prop :=
 Ct Tryd.prog 34 [(vi x0)] H [] (fun v H' Fo => ∃ (r0 : f3), v = (Value.agg (a3W r0).toArray) ∧ Fo = [] ∧ K r0 H') noQE
def N7 (x0 : d8) (x1 : Int) (H : Hp) (K : Bool → Hp → Prop) : Prop :=
 Ct Tryd.prog 36 [(Value.agg (j6 x0.m7).toArray), (vi x1)] H [] (fun v H' Fo => ∃ (r0 : Bool), v = (Value.bool r0) ∧ Fo = [] ∧ K r0 H') noQE
def O5 (x0 : Bool) (x1 : Bool) (x2 : Bool) (H : Hp) (K : Bool → Hp → Prop) : Prop :=
 Ct Tryd.prog 35 [(Value.bool x0), (Value.bool x1), (Value.bool x2)] H [] (fun v H' Fo => ∃ (r0 : Bool), v = (Value.bool r0) ∧ Fo = [] ∧ K r0 H') noQE
def a0k (x0 : d8) (x1 : Int) (H : Hp) (K : Bool → Hp → Prop) : Prop :=
 Ct Tryd.prog 37 [(Value.agg (j6 x0.m7).toArray), (vi x1)] H [] (fun v H' Fo => ∃ (r0 : Bool), v = (Value.bool r0) ∧ Fo = [] ∧ K r0 H') noQE
def O2 (x0 : d8) (x1 : i5) (H : Hp) (K : Bool → Hp → Prop) : Prop :=
 Ct Tryd.prog 38 [(Value.agg (j6 x0.m7).toArray), (Value.agg (j9 x1).toArray)] H [] (fun v H' Fo => ∃ (r0 : Bool), v = (Value.bool r0) ∧ Fo = [] ∧ K r0 H') noQE
def J0 (H : Hp) (K : i5 → Hp → Prop) : Prop :=
 Ct Tryd.prog 39 [] H [] (fun v H' Fo => ∃ (r0 : i5), v = (Value.agg (j9 r0).toArray) ∧ Fo = [] ∧ K r0 H') noQE
def a0l (x0 : d8) (x1 : c6) (H : Hp) (K : Bool → Hp → Prop) : Prop :=
 Ct Tryd.prog 21 [(Value.agg (j6 x0.m7).toArray), (Value.agg (f6 x1).toArray)] H [] (fun v H' Fo => ∃ (r0 : Bool), v = (Value.bool r0) ∧ Fo = [] ∧ K r0 H') noQE
def a2B (x0 : m0) (H : Hp) (K : Int → Hp → Prop) : Prop :=
 Ct Tryd.prog 14 [(Value.agg (j6 x0).toArray)] H [] (fun v H' Fo => ∃ (r0 : Int), v = (vi r0) ∧ Fo = [] ∧ K r0 H') noQE
def a3o (x0 : m0) (H : Hp) (K : Sl → Hp → Prop) : Prop :=
 Ct Tryd.prog 15 [(Value.agg (j6 x0).toArray)] H [] (fun v H' Fo => ∃ (r0 : Sl), v = (vs r0) ∧ Fo = [] ∧ K r0 H') noQE
def Y1 (x0 : Int) (x1 : Sl) (x1_ : (List Bool)) (x2 : Sl) (x3 : m0) (x5 : Sl) (x5_ : (List Int)) (H : Hp) (K : Sl → (List Bool) → Sl → (List Int) → Hp → Prop) : Prop :=
 ∀ (g1 g2 g3 g4 g5 : Nat), ∀ (sx1_ : Sl) (Fx1_ : Frag) (sx5_ : Sl) (Fx5_ : Frag), RowL 4 1 a3K sx1_ x1_ Fx1_ → RowL 3 1 C9 sx5_ x5_ Fx5_ → Ct Tryd.prog 16 [(vi x0), (Value.pointer (some ⟨g1, 0, none⟩)), (Value.pointer (some ⟨g2, 0, none⟩)), (Value.pointer (some ⟨g3, 0, none⟩)), (Value.pointer (some ⟨g4, 0, none⟩)), (Value.pointer (some ⟨g5, 0, none⟩))] H [bx g1 65 [(vs sx1_)], Fx1_, bx g2 63 [(vs x2)], bx g3 30 (j6 x3), bx g4 66 [(Value.func (.func 16) #[] #[(Value.pointer (some ⟨g1, 0, none⟩)), (Value.pointer (some ⟨g2, 0, none⟩)), (Value.pointer (some ⟨g3, 0, none⟩)), (Value.pointer (some ⟨g4, 0, none⟩)), (Value.pointer (some ⟨g5, 0, none⟩))])], bx g5 49 [(vs sx5_)], Fx5_] (fun v H' Fo => ∃ (y0 : Sl) (y0_ : (List Bool)) (y1 : Sl) (y1_ : (List Int)) (sy0_ : Sl) (Fy0_ : Frag) (sy1_ : Sl) (Fy1_ : Frag), v = (Value.tuple #[]) ∧ Fo = [bx g1 65 [(vs sy0_)], Fy0_, bx g2 63 [(vs x2)], bx g3 30 (j6 x3), bx g4 66 [(Value.func (.func 16) #[] #[(Value.pointer (some ⟨g1, 0, none⟩)), (Value.pointer (some ⟨g2, 0, none⟩)), (Value.pointer (some ⟨g3, 0, none⟩)), (Value.pointer (some ⟨g4, 0, none⟩)), (Value.pointer (some ⟨g5, 0, none⟩))])], bx g5 49 [(vs sy1_)], Fy1_] ∧ RowL 4 1 a3K sy0_ y0_ Fy0_ ∧ RowL 3 1 C9 sy1_ y1_ Fy1_ ∧ K y0 y0_ y1 y1_ H') noQE
def a0m (x0 : (List Int)) (H : Hp) (K : (List Int) → Hp → Prop) : Prop :=
 ∀ (sx0 : Sl) (Fx0 : Frag), RowL 3 1 C9 sx0 x0 Fx0 → Ct Tryd.prog 17 [(vs sx0)] H [Fx0] (fun v H' Fo => ∃ (y0 : (List Int)) (Fy0 : Frag), v = (Value.tuple #[]) ∧ Fo = [Fy0] ∧ RowL 3 1 C9 sx0 y0 Fy0 ∧ K y0 H') noQE
def a2C (x0 : m0) (H : Hp) (K : Sl → Int → Hp → Prop) : Prop :=
 Ct Tryd.prog 9 [(Value.agg (j6 x0).toArray)] H [] (fun v H' Fo => ∃ (r0 : Sl) (r1 : Int), v = (Value.tuple #[(vs r0), (vi r1)]) ∧ Fo = [] ∧ K r0 r1 H') noQE
def S4 (x0 : Int) (H : Hp) (K : Bool → Hp → Prop) : Prop :=
 Ct Tryd.prog 5 [(vi x0)] H [] (fun v H' Fo => ∃ (r0 : Bool), v = (Value.bool r0) ∧ Fo = [] ∧ K r0 H') noQE
def a3C (x0 : m6) (x1 : Int) (H : Hp) (K : Sl → Int → Hp → Prop) : Prop :=
 Ct Tryd.prog 18 [(Value.agg (p9 x0).toArray), (vi x1)] H [] (fun v H' Fo => ∃ (r0 : Sl) (r1 : Int), v = (Value.tuple #[(vs r0), (vi r1)]) ∧ Fo = [] ∧ K r0 r1 H') noQE
def a4H (x0 : m6) (H : Hp) (K : Sl → Int → Hp → Prop) : Prop :=
 Ct Tryd.prog 10 [(Value.agg (p9 x0).toArray)] H [] (fun v H' Fo => ∃ (r0 : Sl) (r1 : Int), v = (Value.tuple #[(vs r0), (vi r1)]) ∧ Fo = [] ∧ K r0 r1 H') noQE
def a3X (x0 : m6) (H : Hp) (K : Sl → Int → Hp → Prop) : Prop :=
 Ct Tryd.prog 11 [(Value.agg (p9 x0).toArray)] H [] (fun v H' Fo => ∃ (r0 : Sl) (r1 : Int), v = (Value.tuple #[(vs r0), (vi r1)]) ∧ Fo = [] ∧ K r0 r1 H') noQE
def v2 (x0 : d3) (f : (List c6)) (H : Hp) (K : Int → d3 → (List c6) → Hp → Prop) : Prop :=
 ∀ (g0 : Nat), ∀ (a : Sl) (b : Frag), RowL 46 10 f6 a f b → Ct Tryd.prog 12 [(Value.pointer (some ⟨g0, 0, none⟩))] H [bx g0 59 (m1 x0 a), b] (fun v H' Fo => ∃ (r0 : Int) (y0 : d3) (c : (List c6)) (d : Sl) (e : Frag), v = (vi r0) ∧ Fo = [bx g0 59 (m1 y0 d), e] ∧ RowL 46 10 f6 d c e ∧ K r0 y0 c H') noQE
def O3 (x0 : d3) (c : (List c6)) (x1 : m3) (H : Hp) (K : i5 → Bool → Hp → Prop) : Prop :=
 ∀ (g0 : Nat), ∀ (a : Sl) (b : Frag), RowL 46 10 f6 a c b → Ct Tryd.prog 45 [(Value.pointer (some ⟨g0, 0, none⟩)), (Value.agg (i6 x1).toArray)] H [bx g0 59 (m1 x0 a), b] (fun v H' Fo => ∃ (r0 : i5) (r1 : Bool), v = (Value.tuple #[(Value.agg (j9 r0).toArray), (Value.bool r1)]) ∧ Fo = [bx g0 59 (m1 x0 a), b] ∧ K r0 r1 H') noQE
def r6 (x0 : d3) (f : (List c6)) (x1 : c6) (H : Hp) (K : d3 → (List c6) → Hp → Prop) : Prop :=
 ∀ (g0 : Nat), ∀ (a : Sl) (b : Frag), RowL 46 10 f6 a f b → Ct Tryd.prog 31 [(Value.pointer (some ⟨g0, 0, none⟩)), (Value.agg (f6 x1).toArray)] H [bx g0 59 (m1 x0 a), b] (fun v H' Fo => ∃ (y0 : d3) (c : (List c6)) (d : Sl) (e : Frag), v = (Value.tuple #[]) ∧ Fo = [bx g0 59 (m1 y0 d), e] ∧ RowL 46 10 f6 d c e ∧ K y0 c H') noQE
def a2e (x0 : Int) (H : Hp) (K : Int → Hp → Prop) : Prop :=
 Ct Tryd.prog 52 [(vi x0)] H [] (fun v H' Fo => ∃ (r0 : Int), v = (vi r0) ∧ Fo = [] ∧ K r0 H') noQE
def C6 (x0 : Int) (x1 : Int) (x2 : Int) (H : Hp) (K : c6 → Hp → Prop) : Prop :=
 Ct Tryd.prog 29 [(vi x0), (vi x1), (vi x2)] H [] (fun v H' Fo => ∃ (r0 : c6), v = (Value.agg (f6 r0).toArray) ∧ Fo = [] ∧ K r0 H') noQE
def Y2 (x0 : d3) (f : (List c6)) (x1 : Int) (H : Hp) (K : Int → d3 → (List c6) → Hp → Prop) : Prop :=
 ∀ (g0 : Nat), ∀ (a : Sl) (b : Frag), RowL 46 10 f6 a f b → Ct Tryd.prog 53 [(Value.pointer (some ⟨g0, 0, none⟩)), (vi x1)] H [bx g0 59 (m1 x0 a), b] (fun v H' Fo => ∃ (r0 : Int) (y0 : d3) (c : (List c6)) (d : Sl) (e : Frag), v = (vi r0) ∧ Fo = [bx g0 59 (m1 y0 d), e] ∧ RowL 46 10 f6 d c e ∧ K r0 y0 c H') noQE
def E9 (x0 : d3) (f : (List c6)) (x1 : m3) (x2 : Int) (x3 : Int) (H : Hp) (K : i5 → Int → d3 → (List c6) → Hp → Prop) : Prop :=
 ∀ (g0 : Nat), ∀ (a : Sl) (b : Frag), RowL 46 10 f6 a f b → Ct Tryd.prog 47 [(Value.pointer (some ⟨g0, 0, none⟩)), (Value.agg (i6 x1).toArray), (vi x2), (vi x3)] H [bx g0 59 (m1 x0 a), b] (fun v H' Fo => ∃ (r0 : i5) (r1 : Int) (y0 : d3) (c : (List c6)) (d : Sl) (e : Frag), v = (Value.tuple #[(Value.agg (j9 r0).toArray), (vi r1)]) ∧ Fo = [bx g0 59 (m1 y0 d), e] ∧ RowL 46 10 f6 d c e ∧ K r0 r1 y0 c H') noQE
def U2 (x0 : d3) (c : (List c6)) (x1 : i5) (x2 : Int) (H : Hp) (K : Int → Hp → Prop) : Prop :=
 ∀ (g0 : Nat), ∀ (a : Sl) (b : Frag), RowL 46 10 f6 a c b → Ct Tryd.prog 48 [(Value.pointer (some ⟨g0, 0, none⟩)), (Value.agg (j9 x1).toArray), (vi x2)] H [bx g0 59 (m1 x0 a), b] (fun v H' Fo => ∃ (r0 : Int), v = (vi r0) ∧ Fo = [bx g0 59 (m1 x0 a), b] ∧ K r0 H') noQE
def L9 (x0 : d3) (f : (List c6)) (x1 : Sl) (x2 : Int) (x3 : Int) (H : Hp) (K : i5 → i5 → Int → d3 → (List c6) → Hp → Prop) : Prop :=
 ∀ (g0 : Nat), ∀ (a : Sl) (b : Frag), RowL 46 10 f6 a f b → Ct Tryd.prog 30 [(Value.pointer (some ⟨g0, 0, none⟩)), (vs x1), (vi x2), (vi x3)] H [bx g0 59 (m1 x0 a), b] (fun v H' Fo => ∃ (r0 : i5) (r1 : i5) (r2 : Int) (y0 : d3) (c : (List c6)) (d : Sl) (e : Frag), v = (Value.tuple #[(Value.agg (j9 r0).toArray), (Value.agg (j9 r1).toArray), (vi r2)]) ∧ Fo = [bx g0 59 (m1 y0 d), e] ∧ RowL 46 10 f6 d c e ∧ K r0 r1 r2 y0 c H') noQE
def P7 (x0 : d3) (f : (List c6)) (x1 : m3) (x2 : Int) (x3 : Int) (x4 : Int) (x5 : Int) (H : Hp) (K : d3 → (List c6) → Hp → Prop) : Prop :=
 ∀ (g0 : Nat), ∀ (a : Sl) (b : Frag), RowL 46 10 f6 a f b → Ct Tryd.prog 46 [(Value.pointer (some ⟨g0, 0, none⟩)), (Value.agg (i6 x1).toArray), (vi x2), (vi x3), (vi x4), (vi x5)] H [bx g0 59 (m1 x0 a), b] (fun v H' Fo => ∃ (y0 : d3) (c : (List c6)) (d : Sl) (e : Frag), v = (Value.tuple #[]) ∧ Fo = [bx g0 59 (m1 y0 d), e] ∧ RowL 46 10 f6 d c e ∧ K y0 c H') noQE
def U3 (x0 : d3) (f : (List c6)) (x1 : Int) (x2 : m3) (x3 : Int) (x4 : Int) (H : Hp) (K : d3 → (List c6) → Hp → Prop) : Prop :=
 ∀ (g0 : Nat), ∀ (a : Sl) (b : Frag), RowL 46 10 f6 a f b → Ct Tryd.prog 28 [(Value.pointer (some ⟨g0, 0, none⟩)), (vi x1), (Value.agg (i6 x2).toArray), (vi x3), (vi x4)] H [bx g0 59 (m1 x0 a), b] (fun v H' Fo => ∃ (y0 : d3) (c : (List c6)) (d : Sl) (e : Frag), v = (Value.tuple #[]) ∧ Fo = [bx g0 59 (m1 y0 d), e] ∧ RowL 46 10 f6 d c e ∧ K y0 c H') noQE
def G3 (x0 : d3) (f : (List c6)) (x1 : Sl) (x2 : Int) (H : Hp) (K : Int → d3 → (List c6) → Hp → Prop) : Prop :=
 ∀ (g0 : Nat), ∀ (a : Sl) (b : Frag), RowL 46 10 f6 a f b → Ct Tryd.prog 32 [(Value.pointer (some ⟨g0, 0, none⟩)), (vs x1), (vi x2)] H [bx g0 59 (m1 x0 a), b] (fun v H' Fo => ∃ (r0 : Int) (y0 : d3) (c : (List c6)) (d : Sl) (e : Frag), v = (vi r0) ∧ Fo = [bx g0 59 (m1 y0 d), e] ∧ RowL 46 10 f6 d c e ∧ K r0 y0 c H') noQE
def s9 (x0 : d3) (f : (List c6)) (x1 : o9) (x2 : Int) (x3 : Int) (x4 : Int) (H : Hp) (K : d3 → (List c6) → Hp → Prop) : Prop :=
 ∀ (g0 : Nat), ∀ (a : Sl) (b : Frag), RowL 46 10 f6 a f b → Ct Tryd.prog 33 [(Value.pointer (some ⟨g0, 0, none⟩)), (Value.agg (l7 x1).toArray), (vi x2), (vi x3), (vi x4)] H [bx g0 59 (m1 x0 a), b] (fun v H' Fo => ∃ (y0 : d3) (c : (List c6)) (d : Sl) (e : Frag), v = (Value.tuple #[]) ∧ Fo = [bx g0 59 (m1 y0 d), e] ∧ RowL 46 10 f6 d c e ∧ K y0 c H') noQE
def Y3 (x0 : d3) (f : (List c6)) (x1 : l0) (x2 : Int) (x3 : Int) (H : Hp) (K : d3 → (List c6) → Hp → Prop) : Prop :=
 ∀ (g0 : Nat), ∀ (a : Sl) (b : Frag), RowL 46 10 f6 a f b → Ct Tryd.prog 19 [(Value.pointer (some ⟨g0, 0, none⟩)), (Value.agg (m5 x1).toArray), (vi x2), (vi x3)] H [bx g0 59 (m1 x0 a), b] (fun v H' Fo => ∃ (y0 : d3) (c : (List c6)) (d : Sl) (e : Frag), v = (Value.tuple #[]) ∧ Fo = [bx g0 59 (m1 y0 d), e] ∧ RowL 46 10 f6 d c e ∧ K y0 c H') noQE
def D4 (x0 : d3) (f : (List c6)) (x1 : Sl) (x2 : Int) (x3 : Int) (H : Hp) (K : d3 → (List c6) → Hp → Prop) : Prop :=
 ∀ (g0 : Nat), ∀ (a : Sl) (b : Frag), RowL 46 10 f6 a f b → Ct Tryd.prog 13 [(Value.pointer (some ⟨g0, 0, none⟩)), (vs x1), (vi x2), (vi x3)] H [bx g0 59 (m1 x0 a), b] (fun v H' Fo => ∃ (y0 : d3) (c : (List c6)) (d : Sl) (e : Frag), v = (Value.tuple #[]) ∧ Fo = [bx g0 59 (m1 y0 d), e] ∧ RowL 46 10 f6 d c e ∧ K y0 c H') noQE
def a3Y (x0 : i7) (H : Hp) (K : d2 → Hp → Prop) : Prop :=
 Ct Tryd.prog 57 [(Value.agg (g9 x0).toArray)] H [] (fun v H' Fo => ∃ (r0 : d2), v = (A0 r0) ∧ Fo = [] ∧ K r0 H') noQE
def B0 (x0 : Sl) (H : Hp) (K : Sl → Hp → Prop) : Prop :=
 Ct Tryd.prog 56 [(vs x0), (Value.func (.func 57) #[] #[])] H [] (fun v H' Fo => ∃ (r0 : Sl), v = (vs r0) ∧ Fo = [] ∧ K r0 H') noQE
def a3Z (x0 : l0) (H : Hp) (K : d2 → Hp → Prop) : Prop :=
 Ct Tryd.prog 59 [(Value.agg (m5 x0).toArray)] H [] (fun v H' Fo => ∃ (r0 : d2), v = (A0 r0) ∧ Fo = [] ∧ K r0 H') noQE
def q6 (x0 : Sl) (H : Hp) (K : Sl → Hp → Prop) : Prop :=
 Ct Tryd.prog 58 [(vs x0), (Value.func (.func 59) #[] #[])] H [] (fun v H' Fo => ∃ (r0 : Sl), v = (vs r0) ∧ Fo = [] ∧ K r0 H') noQE
def G4 (x1 : Int) (H : Hp) (K : (List d2) → Hp → Prop) : Prop :=
 Ct Tryd.prog 62 [(Value.slice none 0 0), (vi x1)] H [] (fun v H' Fo => ∃ (r0 : (List d2)) (sr0 : Sl) (Fr0 : Frag), v = (vs sr0) ∧ Fo = [Fr0] ∧ RowL 126 1 m8 sr0 r0 Fr0 ∧ K r0 H') noQE
def u7 (x0 : Sl) (H : Hp) (K : Sl → Hp → Prop) : Prop :=
 Ct Tryd.prog 55 [(vs x0)] H [] (fun v H' Fo => ∃ (r0 : Sl), v = (vs r0) ∧ Fo = [] ∧ K r0 H') noQE
def U4 (x0 : d2) (H : Hp) (K : ByteArray → Bool → Hp → Prop) : Prop :=
 Ct Tryd.prog 63 [(A0 x0)] H [] (fun v H' Fo => ∃ (r0 : ByteArray) (r1 : Bool), v = (Value.tuple #[(Value.string r0), (Value.bool r1)]) ∧ Fo = [] ∧ K r0 r1 H') noQE
def C0 (x0 : Int) (x1 : Int) (x2 : Int) (H : Hp) (K : Bool → Hp → Prop) : Prop :=
 ∀ (g2 : Nat), Ct Tryd.prog 74 [(Value.int .i32 x0), (Value.int .i32 x1), (Value.pointer (some ⟨g2, 0, none⟩))] H [bx g2 21 [(Value.int .i32 x2)]] (fun v H' Fo => ∃ (r0 : Bool), v = (Value.bool r0) ∧ Fo = [bx g2 21 [(Value.int .i32 x2)]] ∧ K r0 H') noQE
def a0D (x0 : Int) (H : Hp) (K : Int → Hp → Prop) : Prop :=
 Ct Tryd.prog 70 [(Value.int .i32 x0)] H [] (fun v H' Fo => ∃ (r0 : Int), v = (vi r0) ∧ Fo = [] ∧ K r0 H') noQE
def a2f (x0 : Int) (H : Hp) (K : Bool → Hp → Prop) : Prop :=
 Ct Tryd.prog 69 [(Value.int .i32 x0)] H [] (fun v H' Fo => ∃ (r0 : Bool), v = (Value.bool r0) ∧ Fo = [] ∧ K r0 H') noQE
def a2d (x0 : ByteArray) (H : Hp) (K : Bool → Hp → Prop) : Prop :=
 Ct Tryd.prog 66 [(Value.string x0)] H [] (fun v H' Fo => ∃ (r0 : Bool), v = (Value.bool r0) ∧ Fo = [] ∧ K r0 H') noQE
def O6 (x0 : ByteArray) (H : Hp) (K : Int → Hp → Prop) : Prop :=
 Ct Tryd.prog 73 [(Value.string x0)] H [] (fun v H' Fo => ∃ (r0 : Int), v = (vi r0) ∧ Fo = [] ∧ K r0 H') noQE
def a3p (x0 : ByteArray) (H : Hp) (K : Bool → Hp → Prop) : Prop :=
 Ct Tryd.prog 67 [(Value.string x0)] H [] (fun v H' Fo => ∃ (r0 : Bool), v = (Value.bool r0) ∧ Fo = [] ∧ K r0 H') noQE
def a3q (x0 : ByteArray) (H : Hp) (K : Bool → Hp → Prop) : Prop :=
 Ct Tryd.prog 68 [(Value.string x0)] H [] (fun v H' Fo => ∃ (r0 : Bool), v = (Value.bool r0) ∧ Fo = [] ∧ K r0 H') noQE
def a1e (x0 : ByteArray) (H : Hp) (K : Bool → Hp → Prop) : Prop :=
 Ct Tryd.prog 64 [(Value.string x0)] H [] (fun v H' Fo => ∃ (r0 : Bool), v = (Value.bool r0) ∧ Fo = [] ∧ K r0 H') noQE
def S5 (x0 : (List ByteArray)) (x1 : ByteArray) (H : Hp) (K : Int → Hp → Prop) : Prop :=
 ∀ (sx0 : Sl) (Fx0 : Frag), RowL 9 1 v1 sx0 x0 Fx0 → Ct Tryd.prog 71 [(vs sx0), (Value.string x1)] H [Fx0] (fun v H' Fo => ∃ (r0 : Int), v = (vi r0) ∧ Fo = [Fx0] ∧ K r0 H') noQE
def J2 (x0 : (List ByteArray)) (x1 : ByteArray) (H : Hp) (K : Bool → Hp → Prop) : Prop :=
 ∀ (sx0 : Sl) (Fx0 : Frag), RowL 9 1 v1 sx0 x0 Fx0 → Ct Tryd.prog 65 [(vs sx0), (Value.string x1)] H [Fx0] (fun v H' Fo => ∃ (r0 : Bool), v = (Value.bool r0) ∧ Fo = [Fx0] ∧ K r0 H') noQE
def W1 (x0 : i4) (f : (List ByteArray)) (x1 : d2) (x2 : Int) (H : Hp) (K : Bool → i4 → (List ByteArray) → Hp → Prop) : Prop :=
 ∀ (g0 : Nat), ∀ (a : Sl) (b : Frag), RowL 9 1 v1 a f b → Ct Tryd.prog 61 [(Value.pointer (some ⟨g0, 0, none⟩)), (A0 x1), (vi x2)] H [bx g0 116 (S3 x0 a), b] (fun v H' Fo => ∃ (r0 : Bool) (y0 : i4) (c : (List ByteArray)) (d : Sl) (e : Frag), v = (Value.bool r0) ∧ Fo = [bx g0 116 (S3 y0 d), e] ∧ RowL 9 1 v1 d c e ∧ K r0 y0 c H') noQE
def O0 (x0 : Sl) (x1 : Int) (x2 : i4) (f : (List ByteArray)) (H : Hp) (K : Bool → i4 → (List ByteArray) → Hp → Prop) : Prop :=
 ∀ (g2 g2b g3 : Nat), ∀ (a : Sl) (b : Frag), RowL 9 1 v1 a f b → Ct Tryd.prog 60 [(vs x0), (vi x1), (Value.pointer (some ⟨g2, 0, none⟩)), (Value.pointer (some ⟨g3, 0, none⟩))] H [bx g2 117 [(Value.pointer (some ⟨g2b, 0, none⟩))], bx g2b 116 (S3 x2 a), b, bx g3 132 [(Value.func (.func 60) #[] #[(Value.pointer (some ⟨g2, 0, none⟩)), (Value.pointer (some ⟨g3, 0, none⟩))])]] (fun v H' Fo => ∃ (r0 : Bool) (y0 : i4) (c : (List ByteArray)) (d : Sl) (e : Frag), v = (Value.bool r0) ∧ Fo = [bx g2 117 [(Value.pointer (some ⟨g2b, 0, none⟩))], bx g2b 116 (S3 y0 d), e, bx g3 132 [(Value.func (.func 60) #[] #[(Value.pointer (some ⟨g2, 0, none⟩)), (Value.pointer (some ⟨g3, 0, none⟩))])]] ∧ RowL 9 1 v1 d c e ∧ K r0 y0 c H') noQE
def a1E (x0 : Sl) (H : Hp) (K : i4 → Hp → Prop) : Prop :=
 Ct Tryd.prog 54 [(vs x0)] H [] (fun v H' Fo => ∃ (r0 : i4) (gr0 : Nat), v = (Value.pointer (some ⟨gr0, 0, none⟩)) ∧ Fo = [bx gr0 116 (a6L r0)] ∧ K r0 H') noQE
def a3r (x0 : m6) (H : Hp) (K : i4 → Hp → Prop) : Prop :=
 Ct Tryd.prog 49 [(Value.agg (p9 x0).toArray)] H [] (fun v H' Fo => ∃ (r0 : i4) (gr0 : Nat), v = (Value.pointer (some ⟨gr0, 0, none⟩)) ∧ Fo = [bx gr0 116 (a6L r0)] ∧ K r0 H') noQE
def a2g (x0 : m6) (H : Hp) (K : Int → Hp → Prop) : Prop :=
 Ct Tryd.prog 41 [(Value.agg (p9 x0).toArray)] H [] (fun v H' Fo => ∃ (r0 : Int), v = (vi r0) ∧ Fo = [] ∧ K r0 H') noQE
def a3B (x0 : Sl) (H : Hp) (K : (Option Nat) → ByteArray → Int → Hp → Prop) : Prop :=
 Ct Tryd.prog 42 [(vs x0)] H [] (fun v H' Fo => ∃ (r0 : (Option Nat)) (r1 : ByteArray) (r2 : Int), v = (Value.tuple #[(Value.map r0), (Value.string r1), (vi r2)]) ∧ Fo = [] ∧ K r0 r1 r2 H') noQE
def K2 (x0 : g8) (f : (List d5)) (x1 : m3) (H : Hp) (K : g8 → (List d5) → Hp → Prop) : Prop :=
 ∀ (g0 : Nat), ∀ (a : Sl) (b : Frag), RowL 106 2 r5 a f b → Ct Tryd.prog 51 [(Value.pointer (some ⟨g0, 0, none⟩)), (Value.agg (i6 x1).toArray)] H [bx g0 103 [(vs a)], b] (fun v H' Fo => ∃ (y0 : g8) (c : (List d5)) (d : Sl) (e : Frag), v = (Value.tuple #[]) ∧ Fo = [bx g0 103 [(vs d)], e] ∧ RowL 106 2 r5 d c e ∧ K y0 c H') noQE
def P8 (x0 : g8) (f : (List d5)) (x1 : o9) (H : Hp) (K : g8 → (List d5) → Hp → Prop) : Prop :=
 ∀ (g0 : Nat), ∀ (a : Sl) (b : Frag), RowL 106 2 r5 a f b → Ct Tryd.prog 50 [(Value.pointer (some ⟨g0, 0, none⟩)), (Value.agg (l7 x1).toArray)] H [bx g0 103 [(vs a)], b] (fun v H' Fo => ∃ (y0 : g8) (c : (List d5)) (d : Sl) (e : Frag), v = (Value.tuple #[]) ∧ Fo = [bx g0 103 [(vs d)], e] ∧ RowL 106 2 r5 d c e ∧ K y0 c H') noQE
def J1 (x0 : g8) (f : (List d5)) (x1 : Sl) (H : Hp) (K : g8 → (List d5) → Hp → Prop) : Prop :=
 ∀ (g0 : Nat), ∀ (a : Sl) (b : Frag), RowL 106 2 r5 a f b → Ct Tryd.prog 43 [(Value.pointer (some ⟨g0, 0, none⟩)), (vs x1)] H [bx g0 103 [(vs a)], b] (fun v H' Fo => ∃ (y0 : g8) (c : (List d5)) (d : Sl) (e : Frag), v = (Value.tuple #[]) ∧ Fo = [bx g0 103 [(vs d)], e] ∧ RowL 106 2 r5 d c e ∧ K y0 c H') noQE
def a4k (x0 : m6) (H : Hp) (K : ByteArray → Int → Hp → Prop) : Prop :=
 Ct Tryd.prog 23 [(Value.agg (p9 x0).toArray)] H [] (fun v H' Fo => ∃ (r0 : ByteArray) (r1 : Int), v = (Value.tuple #[(Value.string r0), (vi r1)]) ∧ Fo = [] ∧ K r0 r1 H') noQE
def a4I (x0 : i7) (H : Hp) (K : Int → Hp → Prop) : Prop :=
 Ct Tryd.prog 27 [(Value.agg (g9 x0).toArray)] H [] (fun v H' Fo => ∃ (r0 : Int), v = (vi r0) ∧ Fo = [] ∧ K r0 H') noQE
def a3l (x0 : M7) (H : Hp) (K : Bool → Hp → Prop) : Prop :=
 Ct Tryd.prog 91 [(Value.agg (g9 x0.P6).toArray)] H [] (fun v H' Fo => ∃ (r0 : Bool), v = (Value.bool r0) ∧ Fo = [] ∧ K r0 H') noQE
def a2D (x0 : M7) (H : Hp) (K : Sl → Hp → Prop) : Prop :=
 Ct Tryd.prog 92 [(Value.agg (g9 x0.P6).toArray)] H [] (fun v H' Fo => ∃ (r0 : Sl), v = (vs r0) ∧ Fo = [] ∧ K r0 H') noQE
def a0E (x0 : H9) (H : Hp) (K : Bool → Hp → Prop) : Prop :=
 Ct Tryd.prog 93 [(Value.agg (m5 x0.d9).toArray)] H [] (fun v H' Fo => ∃ (r0 : Bool), v = (Value.bool r0) ∧ Fo = [] ∧ K r0 H') noQE
def a4a (x0 : o9) (H : Hp) (K : d2 → Hp → Prop) : Prop :=
 Ct Tryd.prog 96 [(Value.agg (l7 x0).toArray)] H [] (fun v H' Fo => ∃ (r0 : d2), v = (A0 r0) ∧ Fo = [] ∧ K r0 H') noQE
def v6 (x0 : Sl) (H : Hp) (K : Sl → Hp → Prop) : Prop :=
 Ct Tryd.prog 95 [(vs x0), (Value.func (.func 96) #[] #[])] H [] (fun v H' Fo => ∃ (r0 : Sl), v = (vs r0) ∧ Fo = [] ∧ K r0 H') noQE
def a4b (x0 : m3) (H : Hp) (K : d2 → Hp → Prop) : Prop :=
 Ct Tryd.prog 98 [(Value.agg (i6 x0).toArray)] H [] (fun v H' Fo => ∃ (r0 : d2), v = (A0 r0) ∧ Fo = [] ∧ K r0 H') noQE
def q7 (x0 : Sl) (H : Hp) (K : Sl → Hp → Prop) : Prop :=
 Ct Tryd.prog 97 [(vs x0), (Value.func (.func 98) #[] #[])] H [] (fun v H' Fo => ∃ (r0 : Sl), v = (vs r0) ∧ Fo = [] ∧ K r0 H') noQE
def a2E (x0 : H9) (H : Hp) (K : Sl → Hp → Prop) : Prop :=
 Ct Tryd.prog 94 [(Value.agg (m5 x0.d9).toArray)] H [] (fun v H' Fo => ∃ (r0 : Sl), v = (vs r0) ∧ Fo = [] ∧ K r0 H') noQE
def a0F (x0 : C7) (H : Hp) (K : Bool → Hp → Prop) : Prop :=
 Ct Tryd.prog 99 [(Value.agg (i6 x0.o0).toArray)] H [] (fun v H' Fo => ∃ (r0 : Bool), v = (Value.bool r0) ∧ Fo = [] ∧ K r0 H') noQE
def a2F (x0 : C7) (H : Hp) (K : Sl → Hp → Prop) : Prop :=
 Ct Tryd.prog 100 [(Value.agg (i6 x0.o0).toArray)] H [] (fun v H' Fo => ∃ (r0 : Sl), v = (vs r0) ∧ Fo = [] ∧ K r0 H') noQE
def a0G (x0 : I0) (H : Hp) (K : Bool → Hp → Prop) : Prop :=
 Ct Tryd.prog 102 [(Value.agg (l7 x0.m4).toArray)] H [] (fun v H' Fo => ∃ (r0 : Bool), v = (Value.bool r0) ∧ Fo = [] ∧ K r0 H') noQE
def a2G (x0 : I0) (H : Hp) (K : Sl → Hp → Prop) : Prop :=
 Ct Tryd.prog 103 [(Value.agg (l7 x0.m4).toArray)] H [] (fun v H' Fo => ∃ (r0 : Sl), v = (vs r0) ∧ Fo = [] ∧ K r0 H') noQE
def a1F (x : d2) (H : Hp) (K : Bool → Hp → Prop) : Prop := match x with
 | .nil => False
 | .C1 y => a3l y H K
 | .A7 y => a0E y H K
 | .z8 y => a0F y H K
 | .C8 y => a0G y H K
def a1q (x : d2) (H : Hp) (K : Sl → Hp → Prop) : Prop := match x with
 | .nil => False
 | .C1 y => a2D y H K
 | .A7 y => a2E y H K
 | .z8 y => a2F y H K
 | .C8 y => a2G y H K
theorem a6M {E : Pan} {w0 w : World} {ps : Nat → Prop} {H0 H : Hp} {Fr : List Frag} {K : Value → World → Prop} {Kc : Bool → Hp → Prop} {x : d2} (I : Inv w0 ps H0 H Fr w) (h : a1F x H Kc) (hq : ∀ (r0 : Bool) (H' : Hp) (w' : World), Inv w0 ps H0 H' Fr w' → Hle H H' → (∀ i, i < w.heap.size → ¬ inF [] i → w'.heap[i]? = w.heap[i]?) → Kc r0 H' → K (Value.bool r0) w') : opK Tryd.prog E (xInvoke (A0 x) "gnomon/tree.form" []) w K := by
 cases x with
 | nil => exact h.elim
 | C1 y => exact a0V (f := 91) (args := [(Value.agg (g9 y.P6).toArray)].toArray) (by kernel_rfl) (a0B (Fi := []) I h (fun v H' Fo w' I' l hk hq' => by obtain ⟨r0, rfl, rfl, hK⟩ := hq'; exact hq r0 H' w' I' l hk hK) (fun _ _ _ _ _ q => q.elim))
 | A7 y => exact a0V (f := 93) (args := [(Value.agg (m5 y.d9).toArray)].toArray) (by kernel_rfl) (a0B (Fi := []) I h (fun v H' Fo w' I' l hk hq' => by obtain ⟨r0, rfl, rfl, hK⟩ := hq'; exact hq r0 H' w' I' l hk hK) (fun _ _ _ _ _ q => q.elim))
 | z8 y => exact a0V (f := 99) (args := [(Value.agg (i6 y.o0).toArray)].toArray) (by kernel_rfl) (a0B (Fi := []) I h (fun v H' Fo w' I' l hk hq' => by obtain ⟨r0, rfl, rfl, hK⟩ := hq'; exact hq r0 H' w' I' l hk hK) (fun _ _ _ _ _ q => q.elim))
 | C8 y => exact a0V (f := 102) (args := [(Value.agg (l7 y.m4).toArray)].toArray) (by kernel_rfl) (a0B (Fi := []) I h (fun v H' Fo w' I' l hk hq' => by obtain ⟨r0, rfl, rfl, hK⟩ := hq'; exact hq r0 H' w' I' l hk hK) (fun _ _ _ _ _ q => q.elim))
theorem a6B {E : Pan} {w0 w : World} {ps : Nat → Prop} {H0 H : Hp} {Fr : List Frag} {K : Value → World → Prop} {Kc : Sl → Hp → Prop} {x : d2} (I : Inv w0 ps H0 H Fr w) (h : a1q x H Kc) (hq : ∀ (r0 : Sl) (H' : Hp) (w' : World), Inv w0 ps H0 H' Fr w' → Hle H H' → (∀ i, i < w.heap.size → ¬ inF [] i → w'.heap[i]? = w.heap[i]?) → Kc r0 H' → K (vs r0) w') : opK Tryd.prog E (xInvoke (A0 x) "gnomon/tree.parts" []) w K := by
 cases x with
 | nil => exact h.elim
 | C1 y => exact a0V (f := 92) (args := [(Value.agg (g9 y.P6).toArray)].toArray) (by kernel_rfl) (a0B (Fi := []) I h (fun v H' Fo w' I' l hk hq' => by obtain ⟨r0, rfl, rfl, hK⟩ := hq'; exact hq r0 H' w' I' l hk hK) (fun _ _ _ _ _ q => q.elim))
 | A7 y => exact a0V (f := 94) (args := [(Value.agg (m5 y.d9).toArray)].toArray) (by kernel_rfl) (a0B (Fi := []) I h (fun v H' Fo w' I' l hk hq' => by obtain ⟨r0, rfl, rfl, hK⟩ := hq'; exact hq r0 H' w' I' l hk hK) (fun _ _ _ _ _ q => q.elim))
 | z8 y => exact a0V (f := 100) (args := [(Value.agg (i6 y.o0).toArray)].toArray) (by kernel_rfl) (a0B (Fi := []) I h (fun v H' Fo w' I' l hk hq' => by obtain ⟨r0, rfl, rfl, hK⟩ := hq'; exact hq r0 H' w' I' l hk hK) (fun _ _ _ _ _ q => q.elim))
 | C8 y => exact a0V (f := 103) (args := [(Value.agg (l7 y.m4).toArray)].toArray) (by kernel_rfl) (a0B (Fi := []) I h (fun v H' Fo w' I' l hk hq' => by obtain ⟨r0, rfl, rfl, hK⟩ := hq'; exact hq r0 H' w' I' l hk hK) (fun _ _ _ _ _ q => q.elim))
end Go.Proofs.YtaokfhdinhimfaaDoor
