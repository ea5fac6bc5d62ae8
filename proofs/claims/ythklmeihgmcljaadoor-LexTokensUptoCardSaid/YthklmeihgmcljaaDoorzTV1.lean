/- Contracts of the program's functions; printed by lift.py off the code. -/
import Derived.Test.YthklmeihgmcljaaDoorzTU1
import Derived.Test.YthklmeihgmcljaaDoorzTG1a
namespace Go.Proofs.YthklmeihgmcljaaDoor
open Go.RowKit
set_option maxRecDepth 100000
set_option maxHeartbeats 2000000
def N1 (x0 : ByteArray) (H : Hp) (K : Bool → Hp → Prop) : Prop :=
 Ct Tryd.prog 3 [(Value.string x0)] H [] (fun v H' Fo => ∃ (r0 : Bool), v = (Value.bool r0) ∧ Fo = [] ∧ K r0 H') noQE
def L0 (x0 : ByteArray) (H : Hp) (K : Sl → a8 → Int → Hp → Prop) : Prop :=
 Ct Tryd.prog 9 [(Value.string x0)] H [] (fun v H' Fo => ∃ (r0 : Sl) (r1 : a8) (r2 : Int), v = (Value.tuple #[(vs r0), (Value.agg (c8 r1).toArray), (vi r2)]) ∧ Fo = [] ∧ K r0 r1 r2 H') noQE
def P5 (H : Hp) (K : Bool → Hp → Prop) : Prop :=
 Ct Tryd.prog 8 [] H [] (fun v H' Fo => ∃ (r0 : Bool), v = (Value.bool r0) ∧ Fo = [] ∧ K r0 H') noQE
def Q8 (x0 : ByteArray) (H : Hp) (K : Bool → Hp → Prop) : Prop :=
 Ct Tryd.prog 13 [(Value.string x0)] H [] (fun v H' Fo => ∃ (r0 : Bool), v = (Value.bool r0) ∧ Fo = [] ∧ K r0 H') noQE
def J1 (x0 : ByteArray) (H : Hp) (K : Bool → Hp → Prop) : Prop :=
 Ct Tryd.prog 14 [(Value.string x0)] H [] (fun v H' Fo => ∃ (r0 : Bool), v = (Value.bool r0) ∧ Fo = [] ∧ K r0 H') noQE
def p7 (x0 : Int) (x1 : Int) (x2 : Int) (H : Hp) (K : Bool → Hp → Prop) : Prop :=
 ∀ (g2 : Nat), Ct Tryd.prog 51 [(Value.int .i32 x0), (Value.int .i32 x1), (Value.pointer (some ⟨g2, 0, none⟩))] H [bx g2 21 [(Value.int .i32 x2)]] (fun v H' Fo => ∃ (r0 : Bool), v = (Value.bool r0) ∧ Fo = [bx g2 21 [(Value.int .i32 x2)]] ∧ K r0 H') noQE
def v6 (x0 : Int) (H : Hp) (K : Int → Hp → Prop) : Prop :=
 Ct Tryd.prog 30 [(Value.int .i32 x0)] H [] (fun v H' Fo => ∃ (r0 : Int), v = (vi r0) ∧ Fo = [] ∧ K r0 H') noQE
def O8 (x0 : Int) (H : Hp) (K : Bool → Hp → Prop) : Prop :=
 Ct Tryd.prog 29 [(Value.int .i32 x0)] H [] (fun v H' Fo => ∃ (r0 : Bool), v = (Value.bool r0) ∧ Fo = [] ∧ K r0 H') noQE
def B4 (x0 : ByteArray) (H : Hp) (K : Int → Hp → Prop) : Prop :=
 Ct Tryd.prog 50 [(Value.string x0)] H [] (fun v H' Fo => ∃ (r0 : Int), v = (vi r0) ∧ Fo = [] ∧ K r0 H') noQE
def Q9 (x0 : ByteArray) (H : Hp) (K : Bool → Hp → Prop) : Prop :=
 Ct Tryd.prog 28 [(Value.string x0)] H [] (fun v H' Fo => ∃ (r0 : Bool), v = (Value.bool r0) ∧ Fo = [] ∧ K r0 H') noQE
def u1 (x0 : ByteArray) (x1 : Int) (H : Hp) (K : Int → Int → Bool → Hp → Prop) : Prop :=
 Ct Tryd.prog 31 [(Value.string x0), (vi x1)] H [] (fun v H' Fo => ∃ (r0 : Int) (r1 : Int) (r2 : Bool), v = (Value.tuple #[(vi r0), (vi r1), (Value.bool r2)]) ∧ Fo = [] ∧ K r0 r1 r2 H') noQE
def j8 (x0 : Int) (x1 : Int) (x2 : Int) (H : Hp) (K : Bool → Hp → Prop) : Prop :=
 Ct Tryd.prog 52 [(vi x0), (vi x1), (vi x2)] H [] (fun v H' Fo => ∃ (r0 : Bool), v = (Value.bool r0) ∧ Fo = [] ∧ K r0 H') noQE
def G6 (x0 : Int) (H : Hp) (K : Int → Hp → Prop) : Prop :=
 Ct Tryd.prog 32 [(vi x0)] H [] (fun v H' Fo => ∃ (r0 : Int), v = (vi r0) ∧ Fo = [] ∧ K r0 H') noQE
def t1 (x0 : ByteArray) (x1 : Int) (H : Hp) (K : Int → Int → Hp → Prop) : Prop :=
 Ct Tryd.prog 45 [(Value.string x0), (vi x1)] H [] (fun v H' Fo => ∃ (r0 : Int) (r1 : Int), v = (Value.tuple #[(vi r0), (vi r1)]) ∧ Fo = [] ∧ K r0 r1 H') noQE
def J3 (x0 : ByteArray) (x1 : Int) (H : Hp) (K : Int → Hp → Prop) : Prop :=
 Ct Tryd.prog 24 [(Value.string x0), (vi x1)] H [] (fun v H' Fo => ∃ (r0 : Int), v = (vi r0) ∧ Fo = [] ∧ K r0 H') noQE
def B7 (x0 : ByteArray) (x1 : a8) (x2 : Int) (x3 : Int) (H : Hp) (K : a8 → Hp → Prop) : Prop :=
 Ct Tryd.prog 25 [(Value.string x0), (Value.agg (c8 x1).toArray), (vi x2), (vi x3)] H [] (fun v H' Fo => ∃ (r0 : a8), v = (Value.agg (c8 r0).toArray) ∧ Fo = [] ∧ K r0 H') noQE
def L3 (x0 : ByteArray) (x1 : Int) (H : Hp) (K : Int → Int → Hp → Prop) : Prop :=
 Ct Tryd.prog 46 [(Value.string x0), (vi x1)] H [] (fun v H' Fo => ∃ (r0 : Int) (r1 : Int), v = (Value.tuple #[(vi r0), (vi r1)]) ∧ Fo = [] ∧ K r0 r1 H') noQE
def F1 (x0 : ByteArray) (x1 : Int) (H : Hp) (K : a6 → Int → Int → Hp → Prop) : Prop :=
 Ct Tryd.prog 47 [(Value.string x0), (vi x1)] H [] (fun v H' Fo => ∃ (r0 : a6) (r1 : Int) (r2 : Int), v = (Value.tuple #[(Value.agg (b6 r0).toArray), (vi r1), (vi r2)]) ∧ Fo = [] ∧ K r0 r1 r2 H') noQE
def J4 (x0 : ByteArray) (x1 : Int) (H : Hp) (K : a6 → Int → Int → Hp → Prop) : Prop :=
 Ct Tryd.prog 48 [(Value.string x0), (vi x1)] H [] (fun v H' Fo => ∃ (r0 : a6) (r1 : Int) (r2 : Int), v = (Value.tuple #[(Value.agg (b6 r0).toArray), (vi r1), (vi r2)]) ∧ Fo = [] ∧ K r0 r1 r2 H') noQE
def L4 (x0 : ByteArray) (x1 : Int) (H : Hp) (K : a6 → Int → Int → Hp → Prop) : Prop :=
 Ct Tryd.prog 26 [(Value.string x0), (vi x1)] H [] (fun v H' Fo => ∃ (r0 : a6) (r1 : Int) (r2 : Int), v = (Value.tuple #[(Value.agg (b6 r0).toArray), (vi r1), (vi r2)]) ∧ Fo = [] ∧ K r0 r1 r2 H') noQE
def G7 (x0 : ByteArray) (H : Hp) (K : Int → Int → Hp → Prop) : Prop :=
 Ct Tryd.prog 22 [(Value.string x0)] H [] (fun v H' Fo => ∃ (r0 : Int) (r1 : Int), v = (Value.tuple #[(vi r0), (vi r1)]) ∧ Fo = [] ∧ K r0 r1 H') noQE
def M6 (x0 : ByteArray) (x1 : Int) (H : Hp) (K : a8 → Hp → Prop) : Prop :=
 Ct Tryd.prog 23 [(Value.string x0), (vi x1)] H [] (fun v H' Fo => ∃ (r0 : a8), v = (Value.agg (c8 r0).toArray) ∧ Fo = [] ∧ K r0 H') noQE
def F6 (x0 : ByteArray) (H : Hp) (K : Sl → a8 → Int → Hp → Prop) : Prop :=
 Ct Tryd.prog 10 [(Value.string x0)] H [] (fun v H' Fo => ∃ (r0 : Sl) (r1 : a8) (r2 : Int), v = (Value.tuple #[(vs r0), (Value.agg (c8 r1).toArray), (vi r2)]) ∧ Fo = [] ∧ K r0 r1 r2 H') noQE
def C1 (x0 : Sl) (x1 : Sl) (H : Hp) (K : Bool → Hp → Prop) : Prop :=
 Ct Tryd.prog 11 [(vs x0), (vs x1)] H [] (fun v H' Fo => ∃ (r0 : Bool), v = (Value.bool r0) ∧ Fo = [] ∧ K r0 H') noQE
def B0 (x0 : ByteArray) (H : Hp) (K : Int → Int → Hp → Prop) : Prop :=
 Ct Tryd.prog 33 [(Value.string x0)] H [] (fun v H' Fo => ∃ (r0 : Int) (r1 : Int), v = (Value.tuple #[(Value.int .i32 r0), (vi r1)]) ∧ Fo = [] ∧ K r0 r1 H') noQE
def T2 (x0 : ByteArray) (H : Hp) (K : Int → Int → Hp → Prop) : Prop :=
 Ct Tryd.prog 17 [(Value.string x0)] H [] (fun v H' Fo => ∃ (r0 : Int) (r1 : Int), v = (Value.tuple #[(vi r0), (vi r1)]) ∧ Fo = [] ∧ K r0 r1 H') noQE
def Y3 (x0 : ByteArray) (x1 : Int) (H : Hp) (K : a8 → Hp → Prop) : Prop :=
 Ct Tryd.prog 18 [(Value.string x0), (vi x1)] H [] (fun v H' Fo => ∃ (r0 : a8), v = (Value.agg (c8 r0).toArray) ∧ Fo = [] ∧ K r0 H') noQE
def u4 (x0 : b5) (c : (List a6)) (H : Hp) (K : ByteArray → Hp → Prop) : Prop :=
 ∀ (g0 : Nat), ∀ (a : Sl) (b : Frag), RowL 33 5 b6 a c b → Ct Tryd.prog 39 [(Value.pointer (some ⟨g0, 0, none⟩))] H [bx g0 44 (g6 x0 a), b] (fun v H' Fo => ∃ (r0 : ByteArray), v = (Value.string r0) ∧ Fo = [bx g0 44 (g6 x0 a), b] ∧ K r0 H') noQE
def J5 (x0 : ByteArray) (x1 : ByteArray) (H : Hp) (K : Bool → Hp → Prop) : Prop :=
 Ct Tryd.prog 57 [(Value.string x0), (Value.string x1)] H [] (fun v H' Fo => ∃ (r0 : Bool), v = (Value.bool r0) ∧ Fo = [] ∧ K r0 H') noQE
def L1 (x0 : ByteArray) (x1 : ByteArray) (H : Hp) (K : Bool → Hp → Prop) : Prop :=
 Ct Tryd.prog 38 [(Value.string x0), (Value.string x1)] H [] (fun v H' Fo => ∃ (r0 : Bool), v = (Value.bool r0) ∧ Fo = [] ∧ K r0 H') noQE
def C9 (x0 : Int) (H : Hp) (K : Bool → Hp → Prop) : Prop :=
 Ct Tryd.prog 40 [(Value.int .i32 x0)] H [] (fun v H' Fo => ∃ (r0 : Bool), v = (Value.bool r0) ∧ Fo = [] ∧ K r0 H') noQE
def l8 (x0 : b5) (f : (List a6)) (H : Hp) (K : b5 → (List a6) → Hp → Prop) : Prop :=
 ∀ (g0 : Nat), ∀ (a : Sl) (b : Frag), RowL 33 5 b6 a f b → Ct Tryd.prog 56 [(Value.pointer (some ⟨g0, 0, none⟩))] H [bx g0 44 (g6 x0 a), b] (fun v H' Fo => ∃ (y0 : b5) (c : (List a6)) (d : Sl) (e : Frag), v = (Value.tuple #[]) ∧ Fo = [bx g0 44 (g6 y0 d), e] ∧ RowL 33 5 b6 d c e ∧ K y0 c H') noQE
def j9 (x0 : b5) (c : (List a6)) (H : Hp) (K : Int → Bool → Hp → Prop) : Prop :=
 ∀ (g0 : Nat), ∀ (a : Sl) (b : Frag), RowL 33 5 b6 a c b → Ct Tryd.prog 20 [(Value.pointer (some ⟨g0, 0, none⟩))] H [bx g0 44 (g6 x0 a), b] (fun v H' Fo => ∃ (r0 : Int) (r1 : Bool), v = (Value.tuple #[(Value.int .i32 r0), (Value.bool r1)]) ∧ Fo = [bx g0 44 (g6 x0 a), b] ∧ K r0 r1 H') noQE
def o7 (x0 : b5) (f : (List a6)) (H : Hp) (K : ByteArray → b5 → (List a6) → Hp → Prop) : Prop :=
 ∀ (g0 : Nat), ∀ (a : Sl) (b : Frag), RowL 33 5 b6 a f b → Ct Tryd.prog 37 [(Value.pointer (some ⟨g0, 0, none⟩)), (Value.func (.func 40) #[] #[])] H [bx g0 44 (g6 x0 a), b] (fun v H' Fo => ∃ (r0 : ByteArray) (y0 : b5) (c : (List a6)) (d : Sl) (e : Frag), v = (Value.string r0) ∧ Fo = [bx g0 44 (g6 y0 d), e] ∧ RowL 33 5 b6 d c e ∧ K r0 y0 c H') noQE
def D1 (x0 : Int) (H : Hp) (K : Bool → Hp → Prop) : Prop :=
 Ct Tryd.prog 36 [(Value.int .i32 x0)] H [] (fun v H' Fo => ∃ (r0 : Bool), v = (Value.bool r0) ∧ Fo = [] ∧ K r0 H') noQE
def m8 (x0 : b5) (f : (List a6)) (H : Hp) (K : ByteArray → b5 → (List a6) → Hp → Prop) : Prop :=
 ∀ (g0 : Nat), ∀ (a : Sl) (b : Frag), RowL 33 5 b6 a f b → Ct Tryd.prog 37 [(Value.pointer (some ⟨g0, 0, none⟩)), (Value.func (.func 36) #[] #[])] H [bx g0 44 (g6 x0 a), b] (fun v H' Fo => ∃ (r0 : ByteArray) (y0 : b5) (c : (List a6)) (d : Sl) (e : Frag), v = (Value.string r0) ∧ Fo = [bx g0 44 (g6 y0 d), e] ∧ RowL 33 5 b6 d c e ∧ K r0 y0 c H') noQE
def B2 (x0 : b5) (f : (List a6)) (H : Hp) (K : b5 → (List a6) → Hp → Prop) : Prop :=
 ∀ (g0 : Nat), ∀ (a : Sl) (b : Frag), RowL 33 5 b6 a f b → Ct Tryd.prog 19 [(Value.pointer (some ⟨g0, 0, none⟩))] H [bx g0 44 (g6 x0 a), b] (fun v H' Fo => ∃ (y0 : b5) (c : (List a6)) (d : Sl) (e : Frag), v = (Value.tuple #[]) ∧ Fo = [bx g0 44 (g6 y0 d), e] ∧ RowL 33 5 b6 d c e ∧ K y0 c H') noQE
def r9 (x0 : b5) (f : (List a6)) (H : Hp) (K : ByteArray → b5 → (List a6) → Hp → Prop) : Prop :=
 ∀ (g0 : Nat), ∀ (a : Sl) (b : Frag), RowL 33 5 b6 a f b → Ct Tryd.prog 37 [(Value.pointer (some ⟨g0, 0, none⟩)), (Value.func (.func 29) #[] #[])] H [bx g0 44 (g6 x0 a), b] (fun v H' Fo => ∃ (r0 : ByteArray) (y0 : b5) (c : (List a6)) (d : Sl) (e : Frag), v = (Value.string r0) ∧ Fo = [bx g0 44 (g6 y0 d), e] ∧ RowL 33 5 b6 d c e ∧ K r0 y0 c H') noQE
def Q0 (x0 : b5) (f : (List a6)) (H : Hp) (K : a6 → Int → b5 → (List a6) → Hp → Prop) : Prop :=
 ∀ (g0 : Nat), ∀ (a : Sl) (b : Frag), RowL 33 5 b6 a f b → Ct Tryd.prog 41 [(Value.pointer (some ⟨g0, 0, none⟩))] H [bx g0 44 (g6 x0 a), b] (fun v H' Fo => ∃ (r0 : a6) (r1 : Int) (y0 : b5) (c : (List a6)) (d : Sl) (e : Frag), v = (Value.tuple #[(Value.agg (b6 r0).toArray), (vi r1)]) ∧ Fo = [bx g0 44 (g6 y0 d), e] ∧ RowL 33 5 b6 d c e ∧ K r0 r1 y0 c H') noQE
def D2 (x0 : Int) (H : Hp) (K : Bool → Hp → Prop) : Prop :=
 Ct Tryd.prog 58 [(Value.int .i32 x0)] H [] (fun v H' Fo => ∃ (r0 : Bool), v = (Value.bool r0) ∧ Fo = [] ∧ K r0 H') noQE
def o8 (x0 : b5) (f : (List a6)) (H : Hp) (K : ByteArray → b5 → (List a6) → Hp → Prop) : Prop :=
 ∀ (g0 : Nat), ∀ (a : Sl) (b : Frag), RowL 33 5 b6 a f b → Ct Tryd.prog 37 [(Value.pointer (some ⟨g0, 0, none⟩)), (Value.func (.func 58) #[] #[])] H [bx g0 44 (g6 x0 a), b] (fun v H' Fo => ∃ (r0 : ByteArray) (y0 : b5) (c : (List a6)) (d : Sl) (e : Frag), v = (Value.string r0) ∧ Fo = [bx g0 44 (g6 y0 d), e] ∧ RowL 33 5 b6 d c e ∧ K r0 y0 c H') noQE
def V3 (x0 : ByteArray) (x1 : Int) (x2 : Int) (H : Hp) (K : Int → Value → Hp → Prop) : Prop :=
 Ct Tryd.prog 59 [(Value.string x0), (vi x1), (vi x2)] H [] (fun v H' Fo => ∃ (r0 : Int) (r1 : Value), v = (Value.tuple #[(vi r0), r1]) ∧ Fo = [] ∧ K r0 r1 H') noQE
def O4 (x0 : b5) (f : (List a6)) (H : Hp) (K : a6 → Int → b5 → (List a6) → Hp → Prop) : Prop :=
 ∀ (g0 : Nat), ∀ (a : Sl) (b : Frag), RowL 33 5 b6 a f b → Ct Tryd.prog 42 [(Value.pointer (some ⟨g0, 0, none⟩))] H [bx g0 44 (g6 x0 a), b] (fun v H' Fo => ∃ (r0 : a6) (r1 : Int) (y0 : b5) (c : (List a6)) (d : Sl) (e : Frag), v = (Value.tuple #[(Value.agg (b6 r0).toArray), (vi r1)]) ∧ Fo = [bx g0 44 (g6 y0 d), e] ∧ RowL 33 5 b6 d c e ∧ K r0 r1 y0 c H') noQE
def Q1 (x0 : b5) (f : (List a6)) (H : Hp) (K : a6 → Int → b5 → (List a6) → Hp → Prop) : Prop :=
 ∀ (g0 : Nat), ∀ (a : Sl) (b : Frag), RowL 33 5 b6 a f b → Ct Tryd.prog 43 [(Value.pointer (some ⟨g0, 0, none⟩))] H [bx g0 44 (g6 x0 a), b] (fun v H' Fo => ∃ (r0 : a6) (r1 : Int) (y0 : b5) (c : (List a6)) (d : Sl) (e : Frag), v = (Value.tuple #[(Value.agg (b6 r0).toArray), (vi r1)]) ∧ Fo = [bx g0 44 (g6 y0 d), e] ∧ RowL 33 5 b6 d c e ∧ K r0 r1 y0 c H') noQE
def V4 (H : Hp) (K : a6 → Int → Hp → Prop) : Prop :=
 Ct Tryd.prog 44 [] H [] (fun v H' Fo => ∃ (r0 : a6) (r1 : Int), v = (Value.tuple #[(Value.agg (b6 r0).toArray), (vi r1)]) ∧ Fo = [] ∧ K r0 r1 H') noQE
end Go.Proofs.YthklmeihgmcljaaDoor
