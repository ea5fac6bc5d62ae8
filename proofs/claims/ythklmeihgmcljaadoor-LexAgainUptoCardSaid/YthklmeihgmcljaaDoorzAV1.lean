/- Contracts of the program's functions; printed by lift.py off the code. -/
import Derived.Test.YthklmeihgmcljaaDoorzAU1
import Derived.Test.YthklmeihgmcljaaDoorzAG1a
namespace Go.Proofs.YthklmeihgmcljaaDoor
open Go.RowKit
set_option maxRecDepth 100000
set_option maxHeartbeats 2000000
def y5 (x0 : ByteArray) (H : Hp) (K : Sl → b7 → Int → Hp → Prop) : Prop :=
 Ct Tryd.prog 9 [(Value.string x0)] H [] (fun v H' Fo => ∃ (r0 : Sl) (r1 : b7) (r2 : Int), v = (Value.tuple #[(vs r0), (Value.agg (m6 r1).toArray), (vi r2)]) ∧ Fo = [] ∧ K r0 r1 r2 H') noQE
def C2 (H : Hp) (K : Bool → Hp → Prop) : Prop :=
 Ct Tryd.prog 8 [] H [] (fun v H' Fo => ∃ (r0 : Bool), v = (Value.bool r0) ∧ Fo = [] ∧ K r0 H') noQE
def y8 (x0 : ByteArray) (x1 : Bool) (H : Hp) (K : Bool → Hp → Prop) : Prop :=
 Ct Tryd.prog 4 [(Value.string x0), (Value.bool x1)] H [] (fun v H' Fo => ∃ (r0 : Bool), v = (Value.bool r0) ∧ Fo = [] ∧ K r0 H') noQE
def K3 (x0 : ByteArray) (H : Hp) (K : Bool → Hp → Prop) : Prop :=
 Ct Tryd.prog 13 [(Value.string x0)] H [] (fun v H' Fo => ∃ (r0 : Bool), v = (Value.bool r0) ∧ Fo = [] ∧ K r0 H') noQE
def o6 (x0 : Int) (x1 : Int) (x2 : Int) (H : Hp) (K : Bool → Hp → Prop) : Prop :=
 ∀ (g2 : Nat), Ct Tryd.prog 51 [(Value.int .i32 x0), (Value.int .i32 x1), (Value.pointer (some ⟨g2, 0, none⟩))] H [bx g2 21 [(Value.int .i32 x2)]] (fun v H' Fo => ∃ (r0 : Bool), v = (Value.bool r0) ∧ Fo = [bx g2 21 [(Value.int .i32 x2)]] ∧ K r0 H') noQE
def t6 (x0 : Int) (H : Hp) (K : Int → Hp → Prop) : Prop :=
 Ct Tryd.prog 30 [(Value.int .i32 x0)] H [] (fun v H' Fo => ∃ (r0 : Int), v = (vi r0) ∧ Fo = [] ∧ K r0 H') noQE
def H6 (x0 : Int) (H : Hp) (K : Bool → Hp → Prop) : Prop :=
 Ct Tryd.prog 29 [(Value.int .i32 x0)] H [] (fun v H' Fo => ∃ (r0 : Bool), v = (Value.bool r0) ∧ Fo = [] ∧ K r0 H') noQE
def u9 (x0 : ByteArray) (H : Hp) (K : Int → Hp → Prop) : Prop :=
 Ct Tryd.prog 50 [(Value.string x0)] H [] (fun v H' Fo => ∃ (r0 : Int), v = (vi r0) ∧ Fo = [] ∧ K r0 H') noQE
def K4 (x0 : ByteArray) (H : Hp) (K : Bool → Hp → Prop) : Prop :=
 Ct Tryd.prog 28 [(Value.string x0)] H [] (fun v H' Fo => ∃ (r0 : Bool), v = (Value.bool r0) ∧ Fo = [] ∧ K r0 H') noQE
def u5 (x0 : ByteArray) (H : Hp) (K : Int → Int → Hp → Prop) : Prop :=
 Ct Tryd.prog 33 [(Value.string x0)] H [] (fun v H' Fo => ∃ (r0 : Int) (r1 : Int), v = (Value.tuple #[(Value.int .i32 r0), (vi r1)]) ∧ Fo = [] ∧ K r0 r1 H') noQE
def M8 (x0 : ByteArray) (H : Hp) (K : Int → Int → Hp → Prop) : Prop :=
 Ct Tryd.prog 17 [(Value.string x0)] H [] (fun v H' Fo => ∃ (r0 : Int) (r1 : Int), v = (Value.tuple #[(vi r0), (vi r1)]) ∧ Fo = [] ∧ K r0 r1 H') noQE
def R2 (x0 : ByteArray) (x1 : Int) (H : Hp) (K : b7 → Hp → Prop) : Prop :=
 Ct Tryd.prog 18 [(Value.string x0), (vi x1)] H [] (fun v H' Fo => ∃ (r0 : b7), v = (Value.agg (m6 r0).toArray) ∧ Fo = [] ∧ K r0 H') noQE
def s4 (x0 : a8) (c : (List a6)) (H : Hp) (K : ByteArray → Hp → Prop) : Prop :=
 ∀ (g0 : Nat), ∀ (a : Sl) (b : Frag), RowL 33 5 b9 a c b → Ct Tryd.prog 39 [(Value.pointer (some ⟨g0, 0, none⟩))] H [bx g0 44 (f9 x0 a), b] (fun v H' Fo => ∃ (r0 : ByteArray), v = (Value.string r0) ∧ Fo = [bx g0 44 (f9 x0 a), b] ∧ K r0 H') noQE
def D1 (x0 : ByteArray) (x1 : ByteArray) (H : Hp) (K : Bool → Hp → Prop) : Prop :=
 Ct Tryd.prog 57 [(Value.string x0), (Value.string x1)] H [] (fun v H' Fo => ∃ (r0 : Bool), v = (Value.bool r0) ∧ Fo = [] ∧ K r0 H') noQE
def D8 (x0 : ByteArray) (x1 : ByteArray) (H : Hp) (K : Bool → Hp → Prop) : Prop :=
 Ct Tryd.prog 38 [(Value.string x0), (Value.string x1)] H [] (fun v H' Fo => ∃ (r0 : Bool), v = (Value.bool r0) ∧ Fo = [] ∧ K r0 H') noQE
def y9 (x0 : Int) (H : Hp) (K : Bool → Hp → Prop) : Prop :=
 Ct Tryd.prog 40 [(Value.int .i32 x0)] H [] (fun v H' Fo => ∃ (r0 : Bool), v = (Value.bool r0) ∧ Fo = [] ∧ K r0 H') noQE
def k6 (x0 : a8) (f : (List a6)) (H : Hp) (K : a8 → (List a6) → Hp → Prop) : Prop :=
 ∀ (g0 : Nat), ∀ (a : Sl) (b : Frag), RowL 33 5 b9 a f b → Ct Tryd.prog 56 [(Value.pointer (some ⟨g0, 0, none⟩))] H [bx g0 44 (f9 x0 a), b] (fun v H' Fo => ∃ (y0 : a8) (c : (List a6)) (d : Sl) (e : Frag), v = (Value.tuple #[]) ∧ Fo = [bx g0 44 (f9 y0 d), e] ∧ RowL 33 5 b9 d c e ∧ K y0 c H') noQE
def i6 (x0 : a8) (c : (List a6)) (H : Hp) (K : Int → Bool → Hp → Prop) : Prop :=
 ∀ (g0 : Nat), ∀ (a : Sl) (b : Frag), RowL 33 5 b9 a c b → Ct Tryd.prog 20 [(Value.pointer (some ⟨g0, 0, none⟩))] H [bx g0 44 (f9 x0 a), b] (fun v H' Fo => ∃ (r0 : Int) (r1 : Bool), v = (Value.tuple #[(Value.int .i32 r0), (Value.bool r1)]) ∧ Fo = [bx g0 44 (f9 x0 a), b] ∧ K r0 r1 H') noQE
def m9 (x0 : a8) (f : (List a6)) (H : Hp) (K : ByteArray → a8 → (List a6) → Hp → Prop) : Prop :=
 ∀ (g0 : Nat), ∀ (a : Sl) (b : Frag), RowL 33 5 b9 a f b → Ct Tryd.prog 37 [(Value.pointer (some ⟨g0, 0, none⟩)), (Value.func (.func 40) #[] #[])] H [bx g0 44 (f9 x0 a), b] (fun v H' Fo => ∃ (r0 : ByteArray) (y0 : a8) (c : (List a6)) (d : Sl) (e : Frag), v = (Value.string r0) ∧ Fo = [bx g0 44 (f9 y0 d), e] ∧ RowL 33 5 b9 d c e ∧ K r0 y0 c H') noQE
def z1 (x0 : Int) (H : Hp) (K : Bool → Hp → Prop) : Prop :=
 Ct Tryd.prog 36 [(Value.int .i32 x0)] H [] (fun v H' Fo => ∃ (r0 : Bool), v = (Value.bool r0) ∧ Fo = [] ∧ K r0 H') noQE
def l9 (x0 : a8) (f : (List a6)) (H : Hp) (K : ByteArray → a8 → (List a6) → Hp → Prop) : Prop :=
 ∀ (g0 : Nat), ∀ (a : Sl) (b : Frag), RowL 33 5 b9 a f b → Ct Tryd.prog 37 [(Value.pointer (some ⟨g0, 0, none⟩)), (Value.func (.func 36) #[] #[])] H [bx g0 44 (f9 x0 a), b] (fun v H' Fo => ∃ (r0 : ByteArray) (y0 : a8) (c : (List a6)) (d : Sl) (e : Frag), v = (Value.string r0) ∧ Fo = [bx g0 44 (f9 y0 d), e] ∧ RowL 33 5 b9 d c e ∧ K r0 y0 c H') noQE
def u7 (x0 : a8) (f : (List a6)) (H : Hp) (K : a8 → (List a6) → Hp → Prop) : Prop :=
 ∀ (g0 : Nat), ∀ (a : Sl) (b : Frag), RowL 33 5 b9 a f b → Ct Tryd.prog 19 [(Value.pointer (some ⟨g0, 0, none⟩))] H [bx g0 44 (f9 x0 a), b] (fun v H' Fo => ∃ (y0 : a8) (c : (List a6)) (d : Sl) (e : Frag), v = (Value.tuple #[]) ∧ Fo = [bx g0 44 (f9 y0 d), e] ∧ RowL 33 5 b9 d c e ∧ K y0 c H') noQE
def p9 (x0 : a8) (f : (List a6)) (H : Hp) (K : ByteArray → a8 → (List a6) → Hp → Prop) : Prop :=
 ∀ (g0 : Nat), ∀ (a : Sl) (b : Frag), RowL 33 5 b9 a f b → Ct Tryd.prog 37 [(Value.pointer (some ⟨g0, 0, none⟩)), (Value.func (.func 29) #[] #[])] H [bx g0 44 (f9 x0 a), b] (fun v H' Fo => ∃ (r0 : ByteArray) (y0 : a8) (c : (List a6)) (d : Sl) (e : Frag), v = (Value.string r0) ∧ Fo = [bx g0 44 (f9 y0 d), e] ∧ RowL 33 5 b9 d c e ∧ K r0 y0 c H') noQE
def J5 (x0 : a8) (f : (List a6)) (H : Hp) (K : a6 → Int → a8 → (List a6) → Hp → Prop) : Prop :=
 ∀ (g0 : Nat), ∀ (a : Sl) (b : Frag), RowL 33 5 b9 a f b → Ct Tryd.prog 41 [(Value.pointer (some ⟨g0, 0, none⟩))] H [bx g0 44 (f9 x0 a), b] (fun v H' Fo => ∃ (r0 : a6) (r1 : Int) (y0 : a8) (c : (List a6)) (d : Sl) (e : Frag), v = (Value.tuple #[(Value.agg (b9 r0).toArray), (vi r1)]) ∧ Fo = [bx g0 44 (f9 y0 d), e] ∧ RowL 33 5 b9 d c e ∧ K r0 r1 y0 c H') noQE
def z6 (x0 : Int) (H : Hp) (K : Bool → Hp → Prop) : Prop :=
 Ct Tryd.prog 58 [(Value.int .i32 x0)] H [] (fun v H' Fo => ∃ (r0 : Bool), v = (Value.bool r0) ∧ Fo = [] ∧ K r0 H') noQE
def o0 (x0 : a8) (f : (List a6)) (H : Hp) (K : ByteArray → a8 → (List a6) → Hp → Prop) : Prop :=
 ∀ (g0 : Nat), ∀ (a : Sl) (b : Frag), RowL 33 5 b9 a f b → Ct Tryd.prog 37 [(Value.pointer (some ⟨g0, 0, none⟩)), (Value.func (.func 58) #[] #[])] H [bx g0 44 (f9 x0 a), b] (fun v H' Fo => ∃ (r0 : ByteArray) (y0 : a8) (c : (List a6)) (d : Sl) (e : Frag), v = (Value.string r0) ∧ Fo = [bx g0 44 (f9 y0 d), e] ∧ RowL 33 5 b9 d c e ∧ K r0 y0 c H') noQE
def O9 (x0 : ByteArray) (x1 : Int) (x2 : Int) (H : Hp) (K : Int → Value → Hp → Prop) : Prop :=
 Ct Tryd.prog 59 [(Value.string x0), (vi x1), (vi x2)] H [] (fun v H' Fo => ∃ (r0 : Int) (r1 : Value), v = (Value.tuple #[(vi r0), r1]) ∧ Fo = [] ∧ K r0 r1 H') noQE
def G9 (x0 : a8) (f : (List a6)) (H : Hp) (K : a6 → Int → a8 → (List a6) → Hp → Prop) : Prop :=
 ∀ (g0 : Nat), ∀ (a : Sl) (b : Frag), RowL 33 5 b9 a f b → Ct Tryd.prog 42 [(Value.pointer (some ⟨g0, 0, none⟩))] H [bx g0 44 (f9 x0 a), b] (fun v H' Fo => ∃ (r0 : a6) (r1 : Int) (y0 : a8) (c : (List a6)) (d : Sl) (e : Frag), v = (Value.tuple #[(Value.agg (b9 r0).toArray), (vi r1)]) ∧ Fo = [bx g0 44 (f9 y0 d), e] ∧ RowL 33 5 b9 d c e ∧ K r0 r1 y0 c H') noQE
def J6 (x0 : a8) (f : (List a6)) (H : Hp) (K : a6 → Int → a8 → (List a6) → Hp → Prop) : Prop :=
 ∀ (g0 : Nat), ∀ (a : Sl) (b : Frag), RowL 33 5 b9 a f b → Ct Tryd.prog 43 [(Value.pointer (some ⟨g0, 0, none⟩))] H [bx g0 44 (f9 x0 a), b] (fun v H' Fo => ∃ (r0 : a6) (r1 : Int) (y0 : a8) (c : (List a6)) (d : Sl) (e : Frag), v = (Value.tuple #[(Value.agg (b9 r0).toArray), (vi r1)]) ∧ Fo = [bx g0 44 (f9 y0 d), e] ∧ RowL 33 5 b9 d c e ∧ K r0 r1 y0 c H') noQE
def P0 (H : Hp) (K : a6 → Int → Hp → Prop) : Prop :=
 Ct Tryd.prog 44 [] H [] (fun v H' Fo => ∃ (r0 : a6) (r1 : Int), v = (Value.tuple #[(Value.agg (b9 r0).toArray), (vi r1)]) ∧ Fo = [] ∧ K r0 r1 H') noQE
end Go.Proofs.YthklmeihgmcljaaDoor
