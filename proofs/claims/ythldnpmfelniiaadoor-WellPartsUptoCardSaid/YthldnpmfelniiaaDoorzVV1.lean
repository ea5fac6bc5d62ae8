/- Contracts of the program's functions; printed by lift.py off the code. -/
import Derived.Test.YthldnpmfelniiaaDoorzVU1
import Derived.Test.YthldnpmfelniiaaDoorzVG1a
import Derived.Test.YthldnpmfelniiaaDoorzVG1b
namespace Go.Proofs.YthldnpmfelniiaaDoor
open Go.RowKit
set_option maxRecDepth 100000
set_option maxHeartbeats 2000000
def a2i (x0 : f7) (H : Hp) (K : a8 → Hp → Prop) : Prop :=
 Ct Tryd.prog 96 [(Value.agg (c7 x0).toArray)] H [] (fun v H' Fo => ∃ (r0 : a8), v = (m3 r0) ∧ Fo = [] ∧ K r0 H') noQE
def y6 (x0 : Sl) (H : Hp) (K : Sl → Hp → Prop) : Prop :=
 Ct Tryd.prog 95 [(vs x0), (Value.func (.func 96) #[] #[])] H [] (fun v H' Fo => ∃ (r0 : Sl), v = (vs r0) ∧ Fo = [] ∧ K r0 H') noQE
def a2j (x0 : q8) (H : Hp) (K : a8 → Hp → Prop) : Prop :=
 Ct Tryd.prog 98 [(Value.agg (g8 x0).toArray)] H [] (fun v H' Fo => ∃ (r0 : a8), v = (m3 r0) ∧ Fo = [] ∧ K r0 H') noQE
def j8 (x0 : Sl) (H : Hp) (K : Sl → Hp → Prop) : Prop :=
 Ct Tryd.prog 97 [(vs x0), (Value.func (.func 98) #[] #[])] H [] (fun v H' Fo => ∃ (r0 : Sl), v = (vs r0) ∧ Fo = [] ∧ K r0 H') noQE
def E1 (x1 : Int) (H : Hp) (K : (List a8) → Hp → Prop) : Prop :=
 Ct Tryd.prog 120 [(Value.slice none 0 0), (vi x1)] H [] (fun v H' Fo => ∃ (r0 : (List a8)) (sr0 : Sl) (Fr0 : Frag), v = (vs sr0) ∧ Fo = [Fr0] ∧ RowL 141 1 h8 sr0 r0 Fr0 ∧ K r0 H') noQE
def o6 (x0 : Sl) (H : Hp) (K : Sl → Hp → Prop) : Prop :=
 Ct Tryd.prog 94 [(vs x0)] H [] (fun v H' Fo => ∃ (r0 : Sl), v = (vs r0) ∧ Fo = [] ∧ K r0 H') noQE
def R2 (x0 : a8) (H : Hp) (K : ByteArray → Bool → Hp → Prop) : Prop :=
 Ct Tryd.prog 114 [(m3 x0)] H [] (fun v H' Fo => ∃ (r0 : ByteArray) (r1 : Bool), v = (Value.tuple #[(Value.string r0), (Value.bool r1)]) ∧ Fo = [] ∧ K r0 r1 H') noQE
def z8 (x0 : Int) (x1 : Int) (x2 : Int) (H : Hp) (K : Bool → Hp → Prop) : Prop :=
 ∀ (g2 : Nat), Ct Tryd.prog 131 [(Value.int .i32 x0), (Value.int .i32 x1), (Value.pointer (some ⟨g2, 0, none⟩))] H [bx g2 21 [(Value.int .i32 x2)]] (fun v H' Fo => ∃ (r0 : Bool), v = (Value.bool r0) ∧ Fo = [bx g2 21 [(Value.int .i32 x2)]] ∧ K r0 H') noQE
def U0 (x0 : Int) (H : Hp) (K : Int → Hp → Prop) : Prop :=
 Ct Tryd.prog 126 [(Value.int .i32 x0)] H [] (fun v H' Fo => ∃ (r0 : Int), v = (vi r0) ∧ Fo = [] ∧ K r0 H') noQE
def a0p (x0 : Int) (H : Hp) (K : Bool → Hp → Prop) : Prop :=
 Ct Tryd.prog 125 [(Value.int .i32 x0)] H [] (fun v H' Fo => ∃ (r0 : Bool), v = (Value.bool r0) ∧ Fo = [] ∧ K r0 H') noQE
def a0k (x0 : ByteArray) (H : Hp) (K : Bool → Hp → Prop) : Prop :=
 Ct Tryd.prog 122 [(Value.string x0)] H [] (fun v H' Fo => ∃ (r0 : Bool), v = (Value.bool r0) ∧ Fo = [] ∧ K r0 H') noQE
def L5 (x0 : ByteArray) (H : Hp) (K : Int → Hp → Prop) : Prop :=
 Ct Tryd.prog 130 [(Value.string x0)] H [] (fun v H' Fo => ∃ (r0 : Int), v = (vi r0) ∧ Fo = [] ∧ K r0 H') noQE
def W1 (x0 : ByteArray) (H : Hp) (K : Bool → Hp → Prop) : Prop :=
 Ct Tryd.prog 123 [(Value.string x0)] H [] (fun v H' Fo => ∃ (r0 : Bool), v = (Value.bool r0) ∧ Fo = [] ∧ K r0 H') noQE
def S2 (x0 : ByteArray) (H : Hp) (K : Bool → Hp → Prop) : Prop :=
 Ct Tryd.prog 124 [(Value.string x0)] H [] (fun v H' Fo => ∃ (r0 : Bool), v = (Value.bool r0) ∧ Fo = [] ∧ K r0 H') noQE
def W2 (x0 : ByteArray) (H : Hp) (K : Bool → Hp → Prop) : Prop :=
 Ct Tryd.prog 115 [(Value.string x0)] H [] (fun v H' Fo => ∃ (r0 : Bool), v = (Value.bool r0) ∧ Fo = [] ∧ K r0 H') noQE
def O9 (x0 : (List ByteArray)) (x1 : ByteArray) (H : Hp) (K : Int → Hp → Prop) : Prop :=
 ∀ (sx0 : Sl) (Fx0 : Frag), RowL 9 1 o8 sx0 x0 Fx0 → Ct Tryd.prog 127 [(vs sx0), (Value.string x1)] H [Fx0] (fun v H' Fo => ∃ (r0 : Int), v = (vi r0) ∧ Fo = [Fx0] ∧ K r0 H') noQE
def B3 (x0 : (List ByteArray)) (x1 : ByteArray) (H : Hp) (K : Bool → Hp → Prop) : Prop :=
 ∀ (sx0 : Sl) (Fx0 : Frag), RowL 9 1 o8 sx0 x0 Fx0 → Ct Tryd.prog 116 [(vs sx0), (Value.string x1)] H [Fx0] (fun v H' Fo => ∃ (r0 : Bool), v = (Value.bool r0) ∧ Fo = [Fx0] ∧ K r0 H') noQE
def R6 (x0 : b7) (L6 : (List ByteArray)) (x1 : a8) (x2 : Int) (H : Hp) (K : Bool → b7 → (List ByteArray) → Hp → Prop) : Prop :=
 ∀ (g0 : Nat), ∀ (K4 : Sl) (V3 : Frag), RowL 9 1 o8 K4 L6 V3 → Ct Tryd.prog 90 [(Value.pointer (some ⟨g0, 0, none⟩)), (m3 x1), (vi x2)] H [bx g0 92 [(vi x0.fnodes), (vi x0.fdepth), (vi x0.fe), (Value.bool x0.fform), (Value.bool x0.fnamed), (vs K4)], V3] (fun v H' Fo => ∃ (r0 : Bool) (y0 : b7) (a1E : (List ByteArray)) (Y7 : Sl) (Y8 : Frag), v = (Value.bool r0) ∧ Fo = [bx g0 92 [(vi y0.fnodes), (vi y0.fdepth), (vi y0.fe), (Value.bool y0.fform), (Value.bool y0.fnamed), (vs Y7)], Y8] ∧ RowL 9 1 o8 Y7 a1E Y8 ∧ K r0 y0 a1E H') noQE
def K9 (x0 : Sl) (x1 : Int) (x2 : b7) (a4i : (List ByteArray)) (H : Hp) (K : Bool → b7 → (List ByteArray) → Hp → Prop) : Prop :=
 ∀ (g2 g2b g3 : Nat), ∀ (a5a : Sl) (a5b : Frag), RowL 9 1 o8 a5a a4i a5b → Ct Tryd.prog 89 [(vs x0), (vi x1), (Value.pointer (some ⟨g2, 0, none⟩)), (Value.pointer (some ⟨g3, 0, none⟩))] H [bx g2 93 [(Value.pointer (some ⟨g2b, 0, none⟩))], bx g2b 92 [(vi x2.fnodes), (vi x2.fdepth), (vi x2.fe), (Value.bool x2.fform), (Value.bool x2.fnamed), (vs a5a)], a5b, bx g3 139 [(Value.func (.func 89) #[] #[(Value.pointer (some ⟨g2, 0, none⟩)), (Value.pointer (some ⟨g3, 0, none⟩))])]] (fun v H' Fo => ∃ (r0 : Bool) (y0 : b7) (a1E : (List ByteArray)) (Y7 : Sl) (Y8 : Frag), v = (Value.bool r0) ∧ Fo = [bx g2 93 [(Value.pointer (some ⟨g2b, 0, none⟩))], bx g2b 92 [(vi y0.fnodes), (vi y0.fdepth), (vi y0.fe), (Value.bool y0.fform), (Value.bool y0.fnamed), (vs Y7)], Y8, bx g3 139 [(Value.func (.func 89) #[] #[(Value.pointer (some ⟨g2, 0, none⟩)), (Value.pointer (some ⟨g3, 0, none⟩))])]] ∧ RowL 9 1 o8 Y7 a1E Y8 ∧ K r0 y0 a1E H') noQE
def Y9 (x0 : Sl) (H : Hp) (K : b7 → Hp → Prop) : Prop :=
 Ct Tryd.prog 57 [(vs x0)] H [] (fun v H' Fo => ∃ (r0 : b7) (gr0 : Nat), v = (Value.pointer (some ⟨gr0, 0, none⟩)) ∧ Fo = [bx gr0 92 (a0X r0)] ∧ K r0 H') noQE
def a1j (x0 : i6) (H : Hp) (K : b7 → Hp → Prop) : Prop :=
 Ct Tryd.prog 66 [(Value.agg (d9 x0).toArray)] H [] (fun v H' Fo => ∃ (r0 : b7) (gr0 : Nat), v = (Value.pointer (some ⟨gr0, 0, none⟩)) ∧ Fo = [bx gr0 92 (a0X r0)] ∧ K r0 H') noQE
def a0q (x0 : i6) (H : Hp) (K : Int → Hp → Prop) : Prop :=
 Ct Tryd.prog 27 [(Value.agg (d9 x0).toArray)] H [] (fun v H' Fo => ∃ (r0 : Int), v = (vi r0) ∧ Fo = [] ∧ K r0 H') noQE
def a1s (x0 : Sl) (H : Hp) (K : (Option Nat) → ByteArray → Int → Hp → Prop) : Prop :=
 Ct Tryd.prog 75 [(vs x0)] H [] (fun v H' Fo => ∃ (r0 : (Option Nat)) (r1 : ByteArray) (r2 : Int), v = (Value.tuple #[(Value.map r0), (Value.string r1), (vi r2)]) ∧ Fo = [] ∧ K r0 r1 r2 H') noQE
def G5 (_x0 : b6) (C4 : (List b4)) (x1 : q7) (H : Hp) (K : b6 → (List b4) → Hp → Prop) : Prop :=
 ∀ (g0 : Nat), ∀ (E9 : Sl) (K5 : Frag), RowL 128 2 i5 E9 C4 K5 → Ct Tryd.prog 105 [(Value.pointer (some ⟨g0, 0, none⟩)), (Value.agg (d4 x1).toArray)] H [bx g0 126 [(vs E9)], K5] (fun v H' Fo => ∃ (y0 : b6) (T8 : (List b4)) (M8 : Sl) (M9 : Frag), v = (Value.tuple #[]) ∧ Fo = [bx g0 126 [(vs M8)], M9] ∧ RowL 128 2 i5 M8 T8 M9 ∧ K y0 T8 H') noQE
def M0 (_x0 : b6) (C4 : (List b4)) (x1 : r6) (H : Hp) (K : b6 → (List b4) → Hp → Prop) : Prop :=
 ∀ (g0 : Nat), ∀ (E9 : Sl) (K5 : Frag), RowL 128 2 i5 E9 C4 K5 → Ct Tryd.prog 104 [(Value.pointer (some ⟨g0, 0, none⟩)), (Value.agg (f6 x1).toArray)] H [bx g0 126 [(vs E9)], K5] (fun v H' Fo => ∃ (y0 : b6) (T8 : (List b4)) (M8 : Sl) (M9 : Frag), v = (Value.tuple #[]) ∧ Fo = [bx g0 126 [(vs M8)], M9] ∧ RowL 128 2 i5 M8 T8 M9 ∧ K y0 T8 H') noQE
def E8 (_x0 : b6) (C4 : (List b4)) (x1 : Sl) (H : Hp) (K : b6 → (List b4) → Hp → Prop) : Prop :=
 ∀ (g0 : Nat), ∀ (E9 : Sl) (K5 : Frag), RowL 128 2 i5 E9 C4 K5 → Ct Tryd.prog 76 [(Value.pointer (some ⟨g0, 0, none⟩)), (vs x1)] H [bx g0 126 [(vs E9)], K5] (fun v H' Fo => ∃ (y0 : b6) (T8 : (List b4)) (M8 : Sl) (M9 : Frag), v = (Value.tuple #[]) ∧ Fo = [bx g0 126 [(vs M8)], M9] ∧ RowL 128 2 i5 M8 T8 M9 ∧ K y0 T8 H') noQE
def O3 (x0 : i6) (H : Hp) (K : ByteArray → Int → Hp → Prop) : Prop :=
 Ct Tryd.prog 39 [(Value.agg (d9 x0).toArray)] H [] (fun v H' Fo => ∃ (r0 : ByteArray) (r1 : Int), v = (Value.tuple #[(Value.string r0), (vi r1)]) ∧ Fo = [] ∧ K r0 r1 H') noQE
def S4 (H : Hp) (K : Bool → Hp → Prop) : Prop :=
 Ct Tryd.prog 38 [] H [] (fun v H' Fo => ∃ (r0 : Bool), v = (Value.bool r0) ∧ Fo = [] ∧ K r0 H') noQE
def a1F (x0 : i6) (x1 : Int) (H : Hp) (K : Sl → Int → Hp → Prop) : Prop :=
 Ct Tryd.prog 82 [(Value.agg (d9 x0).toArray), (vi x1)] H [] (fun v H' Fo => ∃ (r0 : Sl) (r1 : Int), v = (Value.tuple #[(vs r0), (vi r1)]) ∧ Fo = [] ∧ K r0 r1 H') noQE
def a0I (x0 : i6) (H : Hp) (K : Sl → Int → Hp → Prop) : Prop :=
 Ct Tryd.prog 45 [(Value.agg (d9 x0).toArray)] H [] (fun v H' Fo => ∃ (r0 : Sl) (r1 : Int), v = (Value.tuple #[(vs r0), (vi r1)]) ∧ Fo = [] ∧ K r0 r1 H') noQE
def Z1 (x0 : i6) (H : Hp) (K : Sl → Int → Hp → Prop) : Prop :=
 Ct Tryd.prog 46 [(Value.agg (d9 x0).toArray)] H [] (fun v H' Fo => ∃ (r0 : Sl) (r1 : Int), v = (Value.tuple #[(vs r0), (vi r1)]) ∧ Fo = [] ∧ K r0 r1 H') noQE
def N8 (x0 : i6) (x1 : Int) (x2 : Int) (H : Hp) (K : Bool → Hp → Prop) : Prop :=
 Ct Tryd.prog 13 [(Value.agg (d9 x0).toArray), (vi x1), (vi x2)] H [] (fun v H' Fo => ∃ (r0 : Bool), v = (Value.bool r0) ∧ Fo = [] ∧ K r0 H') noQE
def a3k (x0 : f7) (H : Hp) (K : Int → Hp → Prop) : Prop :=
 Ct Tryd.prog 103 [(Value.agg (c7 x0).toArray)] H [] (fun v H' Fo => ∃ (r0 : Int), v = (vi r0) ∧ Fo = [] ∧ K r0 H') noQE
def U7 (x0 : y9) (H : Hp) (K : Bool → Hp → Prop) : Prop :=
 Ct Tryd.prog 148 [(Value.agg (d4 x0.f5).toArray)] H [] (fun v H' Fo => ∃ (r0 : Bool), v = (Value.bool r0) ∧ Fo = [] ∧ K r0 H') noQE
def a2k (x0 : q7) (H : Hp) (K : a8 → Hp → Prop) : Prop :=
 Ct Tryd.prog 151 [(Value.agg (d4 x0).toArray)] H [] (fun v H' Fo => ∃ (r0 : a8), v = (m3 r0) ∧ Fo = [] ∧ K r0 H') noQE
def j9 (x0 : Sl) (H : Hp) (K : Sl → Hp → Prop) : Prop :=
 Ct Tryd.prog 150 [(vs x0), (Value.func (.func 151) #[] #[])] H [] (fun v H' Fo => ∃ (r0 : Sl), v = (vs r0) ∧ Fo = [] ∧ K r0 H') noQE
def a0J (x0 : y9) (H : Hp) (K : Sl → Hp → Prop) : Prop :=
 Ct Tryd.prog 149 [(Value.agg (d4 x0.f5).toArray)] H [] (fun v H' Fo => ∃ (r0 : Sl), v = (vs r0) ∧ Fo = [] ∧ K r0 H') noQE
def U8 (x0 : B9) (H : Hp) (K : Bool → Hp → Prop) : Prop :=
 Ct Tryd.prog 152 [(Value.agg (f6 x0.d7).toArray)] H [] (fun v H' Fo => ∃ (r0 : Bool), v = (Value.bool r0) ∧ Fo = [] ∧ K r0 H') noQE
def a2l (x0 : r6) (H : Hp) (K : a8 → Hp → Prop) : Prop :=
 Ct Tryd.prog 155 [(Value.agg (f6 x0).toArray)] H [] (fun v H' Fo => ∃ (r0 : a8), v = (m3 r0) ∧ Fo = [] ∧ K r0 H') noQE
def p6 (x0 : Sl) (H : Hp) (K : Sl → Hp → Prop) : Prop :=
 Ct Tryd.prog 154 [(vs x0), (Value.func (.func 155) #[] #[])] H [] (fun v H' Fo => ∃ (r0 : Sl), v = (vs r0) ∧ Fo = [] ∧ K r0 H') noQE
def a0K (x0 : B9) (H : Hp) (K : Sl → Hp → Prop) : Prop :=
 Ct Tryd.prog 153 [(Value.agg (f6 x0.d7).toArray)] H [] (fun v H' Fo => ∃ (r0 : Sl), v = (vs r0) ∧ Fo = [] ∧ K r0 H') noQE
def a1g (x0 : E3) (H : Hp) (K : Bool → Hp → Prop) : Prop :=
 Ct Tryd.prog 156 [(Value.agg (c7 x0.D3).toArray)] H [] (fun v H' Fo => ∃ (r0 : Bool), v = (Value.bool r0) ∧ Fo = [] ∧ K r0 H') noQE
def a0L (x0 : E3) (H : Hp) (K : Sl → Hp → Prop) : Prop :=
 Ct Tryd.prog 157 [(Value.agg (c7 x0.D3).toArray)] H [] (fun v H' Fo => ∃ (r0 : Sl), v = (vs r0) ∧ Fo = [] ∧ K r0 H') noQE
def U9 (x0 : C1) (H : Hp) (K : Bool → Hp → Prop) : Prop :=
 Ct Tryd.prog 158 [(Value.agg (g8 x0.b3).toArray)] H [] (fun v H' Fo => ∃ (r0 : Bool), v = (Value.bool r0) ∧ Fo = [] ∧ K r0 H') noQE
def a0M (x0 : C1) (H : Hp) (K : Sl → Hp → Prop) : Prop :=
 Ct Tryd.prog 159 [(Value.agg (g8 x0.b3).toArray)] H [] (fun v H' Fo => ∃ (r0 : Sl), v = (vs r0) ∧ Fo = [] ∧ K r0 H') noQE
def Z2 (x : a8) (H : Hp) (K : Bool → Hp → Prop) : Prop := match x with
 | .nil => False
 | .u1 y => U7 y H K
 | .B0 y => U8 y H K
 | .A4 y => a1g y H K
 | .u6 y => U9 y H K
def X6 (x : a8) (H : Hp) (K : Sl → Hp → Prop) : Prop := match x with
 | .nil => False
 | .u1 y => a0J y H K
 | .B0 y => a0K y H K
 | .A4 y => a0L y H K
 | .u6 y => a0M y H K
theorem a5D {E : Pan} {w0 w : World} {ps : Nat → Prop} {H0 H : Hp} {Fr : List Frag} {K : Value → World → Prop} {Kc : Bool → Hp → Prop} {x : a8} (I : Inv w0 ps H0 H Fr w) (h : Z2 x H Kc) (hq : ∀ (r0 : Bool) (H' : Hp) (w' : World), Inv w0 ps H0 H' Fr w' → Hle H H' → (∀ i, i < w.heap.size → ¬ inF [] i → w'.heap[i]? = w.heap[i]?) → Kc r0 H' → K (Value.bool r0) w') : opK Tryd.prog E (xInvoke (m3 x) "gnomon/tree.form" []) w K := by
 cases x with
 | nil => exact h.elim
 | u1 y => exact Y0 (f := 148) (args := [(Value.agg (d4 y.f5).toArray)].toArray) (by kernel_rfl) (i7 (Fi := []) I h (fun v H' Fo w' I' l hk hq' => by obtain ⟨r0, rfl, rfl, hK⟩ := hq'; exact hq r0 H' w' I' l hk hK) (fun _ _ _ _ _ q => q.elim))
 | B0 y => exact Y0 (f := 152) (args := [(Value.agg (f6 y.d7).toArray)].toArray) (by kernel_rfl) (i7 (Fi := []) I h (fun v H' Fo w' I' l hk hq' => by obtain ⟨r0, rfl, rfl, hK⟩ := hq'; exact hq r0 H' w' I' l hk hK) (fun _ _ _ _ _ q => q.elim))
 | A4 y => exact Y0 (f := 156) (args := [(Value.agg (c7 y.D3).toArray)].toArray) (by kernel_rfl) (i7 (Fi := []) I h (fun v H' Fo w' I' l hk hq' => by obtain ⟨r0, rfl, rfl, hK⟩ := hq'; exact hq r0 H' w' I' l hk hK) (fun _ _ _ _ _ q => q.elim))
 | u6 y => exact Y0 (f := 158) (args := [(Value.agg (g8 y.b3).toArray)].toArray) (by kernel_rfl) (i7 (Fi := []) I h (fun v H' Fo w' I' l hk hq' => by obtain ⟨r0, rfl, rfl, hK⟩ := hq'; exact hq r0 H' w' I' l hk hK) (fun _ _ _ _ _ q => q.elim))
theorem a5r {E : Pan} {w0 w : World} {ps : Nat → Prop} {H0 H : Hp} {Fr : List Frag} {K : Value → World → Prop} {Kc : Sl → Hp → Prop} {x : a8} (I : Inv w0 ps H0 H Fr w) (h : X6 x H Kc) (hq : ∀ (r0 : Sl) (H' : Hp) (w' : World), Inv w0 ps H0 H' Fr w' → Hle H H' → (∀ i, i < w.heap.size → ¬ inF [] i → w'.heap[i]? = w.heap[i]?) → Kc r0 H' → K (vs r0) w') : opK Tryd.prog E (xInvoke (m3 x) "gnomon/tree.parts" []) w K := by
 cases x with
 | nil => exact h.elim
 | u1 y => exact Y0 (f := 149) (args := [(Value.agg (d4 y.f5).toArray)].toArray) (by kernel_rfl) (i7 (Fi := []) I h (fun v H' Fo w' I' l hk hq' => by obtain ⟨r0, rfl, rfl, hK⟩ := hq'; exact hq r0 H' w' I' l hk hK) (fun _ _ _ _ _ q => q.elim))
 | B0 y => exact Y0 (f := 153) (args := [(Value.agg (f6 y.d7).toArray)].toArray) (by kernel_rfl) (i7 (Fi := []) I h (fun v H' Fo w' I' l hk hq' => by obtain ⟨r0, rfl, rfl, hK⟩ := hq'; exact hq r0 H' w' I' l hk hK) (fun _ _ _ _ _ q => q.elim))
 | A4 y => exact Y0 (f := 157) (args := [(Value.agg (c7 y.D3).toArray)].toArray) (by kernel_rfl) (i7 (Fi := []) I h (fun v H' Fo w' I' l hk hq' => by obtain ⟨r0, rfl, rfl, hK⟩ := hq'; exact hq r0 H' w' I' l hk hK) (fun _ _ _ _ _ q => q.elim))
 | u6 y => exact Y0 (f := 159) (args := [(Value.agg (g8 y.b3).toArray)].toArray) (by kernel_rfl) (i7 (Fi := []) I h (fun v H' Fo w' I' l hk hq' => by obtain ⟨r0, rfl, rfl, hK⟩ := hq'; exact hq r0 H' w' I' l hk hK) (fun _ _ _ _ _ q => q.elim))
end Go.Proofs.YthldnpmfelniiaaDoor
