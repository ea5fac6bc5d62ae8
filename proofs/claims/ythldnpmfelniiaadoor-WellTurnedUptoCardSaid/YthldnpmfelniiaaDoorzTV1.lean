/- Contracts of the program's functions; printed by lift.py off the code. -/
import Derived.Test.YthldnpmfelniiaaDoorzTU1
import Derived.Test.YthldnpmfelniiaaDoorzTG1a
import Derived.Test.YthldnpmfelniiaaDoorzTG1b
namespace Go.Proofs.YthldnpmfelniiaaDoor
open Go.RowKit
set_option maxRecDepth 100000
set_option maxHeartbeats 2000000
def a1K (x0 : d6) (H : Hp) (K : a8 → Hp → Prop) : Prop :=
 Ct Tryd.prog 96 [(Value.agg (g7 x0).toArray)] H [] (fun v H' Fo => ∃ (r0 : a8), v = (l9 r0) ∧ Fo = [] ∧ K r0 H') noQE
def u2 (x0 : Sl) (H : Hp) (K : Sl → Hp → Prop) : Prop :=
 Ct Tryd.prog 95 [(vs x0), (Value.func (.func 96) #[] #[])] H [] (fun v H' Fo => ∃ (r0 : Sl), v = (vs r0) ∧ Fo = [] ∧ K r0 H') noQE
def a1L (x0 : p5) (H : Hp) (K : a8 → Hp → Prop) : Prop :=
 Ct Tryd.prog 98 [(Value.agg (f6 x0).toArray)] H [] (fun v H' Fo => ∃ (r0 : a8), v = (l9 r0) ∧ Fo = [] ∧ K r0 H') noQE
def j6 (x0 : Sl) (H : Hp) (K : Sl → Hp → Prop) : Prop :=
 Ct Tryd.prog 97 [(vs x0), (Value.func (.func 98) #[] #[])] H [] (fun v H' Fo => ∃ (r0 : Sl), v = (vs r0) ∧ Fo = [] ∧ K r0 H') noQE
def D2 (x1 : Int) (H : Hp) (K : (List a8) → Hp → Prop) : Prop :=
 Ct Tryd.prog 120 [(Value.slice none 0 0), (vi x1)] H [] (fun v H' Fo => ∃ (r0 : (List a8)) (sr0 : Sl) (Fr0 : Frag), v = (vs sr0) ∧ Fo = [Fr0] ∧ RowL 141 1 h7 sr0 r0 Fr0 ∧ K r0 H') noQE
def o0 (x0 : Sl) (H : Hp) (K : Sl → Hp → Prop) : Prop :=
 Ct Tryd.prog 94 [(vs x0)] H [] (fun v H' Fo => ∃ (r0 : Sl), v = (vs r0) ∧ Fo = [] ∧ K r0 H') noQE
def Q1 (x0 : a8) (H : Hp) (K : ByteArray → Bool → Hp → Prop) : Prop :=
 Ct Tryd.prog 114 [(l9 x0)] H [] (fun v H' Fo => ∃ (r0 : ByteArray) (r1 : Bool), v = (Value.tuple #[(Value.string r0), (Value.bool r1)]) ∧ Fo = [] ∧ K r0 r1 H') noQE
def y6 (x0 : Int) (x1 : Int) (x2 : Int) (H : Hp) (K : Bool → Hp → Prop) : Prop :=
 ∀ (g2 : Nat), Ct Tryd.prog 131 [(Value.int .i32 x0), (Value.int .i32 x1), (Value.pointer (some ⟨g2, 0, none⟩))] H [bx g2 21 [(Value.int .i32 x2)]] (fun v H' Fo => ∃ (r0 : Bool), v = (Value.bool r0) ∧ Fo = [bx g2 21 [(Value.int .i32 x2)]] ∧ K r0 H') noQE
def S6 (x0 : Int) (H : Hp) (K : Int → Hp → Prop) : Prop :=
 Ct Tryd.prog 126 [(Value.int .i32 x0)] H [] (fun v H' Fo => ∃ (r0 : Int), v = (vi r0) ∧ Fo = [] ∧ K r0 H') noQE
def Z9 (x0 : Int) (H : Hp) (K : Bool → Hp → Prop) : Prop :=
 Ct Tryd.prog 125 [(Value.int .i32 x0)] H [] (fun v H' Fo => ∃ (r0 : Bool), v = (Value.bool r0) ∧ Fo = [] ∧ K r0 H') noQE
def Z3 (x0 : ByteArray) (H : Hp) (K : Bool → Hp → Prop) : Prop :=
 Ct Tryd.prog 122 [(Value.string x0)] H [] (fun v H' Fo => ∃ (r0 : Bool), v = (Value.bool r0) ∧ Fo = [] ∧ K r0 H') noQE
def J8 (x0 : ByteArray) (H : Hp) (K : Int → Hp → Prop) : Prop :=
 Ct Tryd.prog 130 [(Value.string x0)] H [] (fun v H' Fo => ∃ (r0 : Int), v = (vi r0) ∧ Fo = [] ∧ K r0 H') noQE
def U7 (x0 : ByteArray) (H : Hp) (K : Bool → Hp → Prop) : Prop :=
 Ct Tryd.prog 123 [(Value.string x0)] H [] (fun v H' Fo => ∃ (r0 : Bool), v = (Value.bool r0) ∧ Fo = [] ∧ K r0 H') noQE
def Q9 (x0 : ByteArray) (H : Hp) (K : Bool → Hp → Prop) : Prop :=
 Ct Tryd.prog 124 [(Value.string x0)] H [] (fun v H' Fo => ∃ (r0 : Bool), v = (Value.bool r0) ∧ Fo = [] ∧ K r0 H') noQE
def U8 (x0 : ByteArray) (H : Hp) (K : Bool → Hp → Prop) : Prop :=
 Ct Tryd.prog 115 [(Value.string x0)] H [] (fun v H' Fo => ∃ (r0 : Bool), v = (Value.bool r0) ∧ Fo = [] ∧ K r0 H') noQE
def N9 (x0 : (List ByteArray)) (x1 : ByteArray) (H : Hp) (K : Int → Hp → Prop) : Prop :=
 ∀ (sx0 : Sl) (Fx0 : Frag), RowL 9 1 s8 sx0 x0 Fx0 → Ct Tryd.prog 127 [(vs sx0), (Value.string x1)] H [Fx0] (fun v H' Fo => ∃ (r0 : Int), v = (vi r0) ∧ Fo = [Fx0] ∧ K r0 H') noQE
def A7 (x0 : (List ByteArray)) (x1 : ByteArray) (H : Hp) (K : Bool → Hp → Prop) : Prop :=
 ∀ (sx0 : Sl) (Fx0 : Frag), RowL 9 1 s8 sx0 x0 Fx0 → Ct Tryd.prog 116 [(vs sx0), (Value.string x1)] H [Fx0] (fun v H' Fo => ∃ (r0 : Bool), v = (Value.bool r0) ∧ Fo = [Fx0] ∧ K r0 H') noQE
def Q3 (x0 : b7) (J9 : (List ByteArray)) (x1 : a8) (x2 : Int) (H : Hp) (K : Bool → b7 → (List ByteArray) → Hp → Prop) : Prop :=
 ∀ (g0 : Nat), ∀ (H9 : Sl) (U0 : Frag), RowL 9 1 s8 H9 J9 U0 → Ct Tryd.prog 90 [(Value.pointer (some ⟨g0, 0, none⟩)), (l9 x1), (vi x2)] H [bx g0 92 [(vi x0.fnodes), (vi x0.fdepth), (vi x0.fe), (Value.bool x0.fform), (Value.bool x0.fnamed), (vs H9)], U0] (fun v H' Fo => ∃ (r0 : Bool) (y0 : b7) (a0Y : (List ByteArray)) (X5 : Sl) (X6 : Frag), v = (Value.bool r0) ∧ Fo = [bx g0 92 [(vi y0.fnodes), (vi y0.fdepth), (vi y0.fe), (Value.bool y0.fform), (Value.bool y0.fnamed), (vs X5)], X6] ∧ RowL 9 1 s8 X5 a0Y X6 ∧ K r0 y0 a0Y H') noQE
def J4 (x0 : Sl) (x1 : Int) (x2 : b7) (a3D : (List ByteArray)) (H : Hp) (K : Bool → b7 → (List ByteArray) → Hp → Prop) : Prop :=
 ∀ (g2 g2b g3 : Nat), ∀ (a4r : Sl) (a4s : Frag), RowL 9 1 s8 a4r a3D a4s → Ct Tryd.prog 89 [(vs x0), (vi x1), (Value.pointer (some ⟨g2, 0, none⟩)), (Value.pointer (some ⟨g3, 0, none⟩))] H [bx g2 93 [(Value.pointer (some ⟨g2b, 0, none⟩))], bx g2b 92 [(vi x2.fnodes), (vi x2.fdepth), (vi x2.fe), (Value.bool x2.fform), (Value.bool x2.fnamed), (vs a4r)], a4s, bx g3 139 [(Value.func (.func 89) #[] #[(Value.pointer (some ⟨g2, 0, none⟩)), (Value.pointer (some ⟨g3, 0, none⟩))])]] (fun v H' Fo => ∃ (r0 : Bool) (y0 : b7) (a0Y : (List ByteArray)) (X5 : Sl) (X6 : Frag), v = (Value.bool r0) ∧ Fo = [bx g2 93 [(Value.pointer (some ⟨g2b, 0, none⟩))], bx g2b 92 [(vi y0.fnodes), (vi y0.fdepth), (vi y0.fe), (Value.bool y0.fform), (Value.bool y0.fnamed), (vs X5)], X6, bx g3 139 [(Value.func (.func 89) #[] #[(Value.pointer (some ⟨g2, 0, none⟩)), (Value.pointer (some ⟨g3, 0, none⟩))])]] ∧ RowL 9 1 s8 X5 a0Y X6 ∧ K r0 y0 a0Y H') noQE
def X7 (x0 : Sl) (H : Hp) (K : b7 → Hp → Prop) : Prop :=
 Ct Tryd.prog 57 [(vs x0)] H [] (fun v H' Fo => ∃ (r0 : b7) (gr0 : Nat), v = (Value.pointer (some ⟨gr0, 0, none⟩)) ∧ Fo = [bx gr0 92 (a0y r0)] ∧ K r0 H') noQE
def a0H (x0 : o8) (H : Hp) (K : b7 → Hp → Prop) : Prop :=
 Ct Tryd.prog 66 [(Value.agg (i6 x0).toArray)] H [] (fun v H' Fo => ∃ (r0 : b7) (gr0 : Nat), v = (Value.pointer (some ⟨gr0, 0, none⟩)) ∧ Fo = [bx gr0 92 (a0y r0)] ∧ K r0 H') noQE
def a0b (x0 : o8) (H : Hp) (K : Int → Hp → Prop) : Prop :=
 Ct Tryd.prog 27 [(Value.agg (i6 x0).toArray)] H [] (fun v H' Fo => ∃ (r0 : Int), v = (vi r0) ∧ Fo = [] ∧ K r0 H') noQE
def a0P (x0 : Sl) (H : Hp) (K : (Option Nat) → ByteArray → Int → Hp → Prop) : Prop :=
 Ct Tryd.prog 75 [(vs x0)] H [] (fun v H' Fo => ∃ (r0 : (Option Nat)) (r1 : ByteArray) (r2 : Int), v = (Value.tuple #[(Value.map r0), (Value.string r1), (vi r2)]) ∧ Fo = [] ∧ K r0 r1 r2 H') noQE
def E4 (_x0 : b6) (B9 : (List b4)) (x1 : o9) (H : Hp) (K : b6 → (List b4) → Hp → Prop) : Prop :=
 ∀ (g0 : Nat), ∀ (D8 : Sl) (I0 : Frag), RowL 128 2 i4 D8 B9 I0 → Ct Tryd.prog 105 [(Value.pointer (some ⟨g0, 0, none⟩)), (Value.agg (c8 x1).toArray)] H [bx g0 126 [(vs D8)], I0] (fun v H' Fo => ∃ (y0 : b6) (S4 : (List b4)) (L1 : Sl) (L2 : Frag), v = (Value.tuple #[]) ∧ Fo = [bx g0 126 [(vs L1)], L2] ∧ RowL 128 2 i4 L1 S4 L2 ∧ K y0 S4 H') noQE
def K1 (_x0 : b6) (B9 : (List b4)) (x1 : p8) (H : Hp) (K : b6 → (List b4) → Hp → Prop) : Prop :=
 ∀ (g0 : Nat), ∀ (D8 : Sl) (I0 : Frag), RowL 128 2 i4 D8 B9 I0 → Ct Tryd.prog 104 [(Value.pointer (some ⟨g0, 0, none⟩)), (Value.agg (d9 x1).toArray)] H [bx g0 126 [(vs D8)], I0] (fun v H' Fo => ∃ (y0 : b6) (S4 : (List b4)) (L1 : Sl) (L2 : Frag), v = (Value.tuple #[]) ∧ Fo = [bx g0 126 [(vs L1)], L2] ∧ RowL 128 2 i4 L1 S4 L2 ∧ K y0 S4 H') noQE
def D7 (_x0 : b6) (B9 : (List b4)) (x1 : Sl) (H : Hp) (K : b6 → (List b4) → Hp → Prop) : Prop :=
 ∀ (g0 : Nat), ∀ (D8 : Sl) (I0 : Frag), RowL 128 2 i4 D8 B9 I0 → Ct Tryd.prog 76 [(Value.pointer (some ⟨g0, 0, none⟩)), (vs x1)] H [bx g0 126 [(vs D8)], I0] (fun v H' Fo => ∃ (y0 : b6) (S4 : (List b4)) (L1 : Sl) (L2 : Frag), v = (Value.tuple #[]) ∧ Fo = [bx g0 126 [(vs L1)], L2] ∧ RowL 128 2 i4 L1 S4 L2 ∧ K y0 S4 H') noQE
def N2 (x0 : o8) (H : Hp) (K : ByteArray → Int → Hp → Prop) : Prop :=
 Ct Tryd.prog 39 [(Value.agg (i6 x0).toArray)] H [] (fun v H' Fo => ∃ (r0 : ByteArray) (r1 : Int), v = (Value.tuple #[(Value.string r0), (vi r1)]) ∧ Fo = [] ∧ K r0 r1 H') noQE
def R0 (H : Hp) (K : Bool → Hp → Prop) : Prop :=
 Ct Tryd.prog 38 [] H [] (fun v H' Fo => ∃ (r0 : Bool), v = (Value.bool r0) ∧ Fo = [] ∧ K r0 H') noQE
def L3 (x0 : o8) (H : Hp) (K : Bool → Hp → Prop) : Prop :=
 Ct Tryd.prog 9 [(Value.agg (i6 x0).toArray)] H [] (fun v H' Fo => ∃ (r0 : Bool), v = (Value.bool r0) ∧ Fo = [] ∧ K r0 H') noQE
def a2F (x0 : d6) (H : Hp) (K : Int → Hp → Prop) : Prop :=
 Ct Tryd.prog 103 [(Value.agg (g7 x0).toArray)] H [] (fun v H' Fo => ∃ (r0 : Int), v = (vi r0) ∧ Fo = [] ∧ K r0 H') noQE
def T3 (x0 : u6) (H : Hp) (K : Bool → Hp → Prop) : Prop :=
 Ct Tryd.prog 148 [(Value.agg (c8 x0.d8).toArray)] H [] (fun v H' Fo => ∃ (r0 : Bool), v = (Value.bool r0) ∧ Fo = [] ∧ K r0 H') noQE
def a1M (x0 : o9) (H : Hp) (K : a8 → Hp → Prop) : Prop :=
 Ct Tryd.prog 151 [(Value.agg (c8 x0).toArray)] H [] (fun v H' Fo => ∃ (r0 : a8), v = (l9 r0) ∧ Fo = [] ∧ K r0 H') noQE
def j7 (x0 : Sl) (H : Hp) (K : Sl → Hp → Prop) : Prop :=
 Ct Tryd.prog 150 [(vs x0), (Value.func (.func 151) #[] #[])] H [] (fun v H' Fo => ∃ (r0 : Sl), v = (vs r0) ∧ Fo = [] ∧ K r0 H') noQE
def a0j (x0 : u6) (H : Hp) (K : Sl → Hp → Prop) : Prop :=
 Ct Tryd.prog 149 [(Value.agg (c8 x0.d8).toArray)] H [] (fun v H' Fo => ∃ (r0 : Sl), v = (vs r0) ∧ Fo = [] ∧ K r0 H') noQE
def T4 (x0 : B3) (H : Hp) (K : Bool → Hp → Prop) : Prop :=
 Ct Tryd.prog 152 [(Value.agg (d9 x0.d5).toArray)] H [] (fun v H' Fo => ∃ (r0 : Bool), v = (Value.bool r0) ∧ Fo = [] ∧ K r0 H') noQE
def a1N (x0 : p8) (H : Hp) (K : a8 → Hp → Prop) : Prop :=
 Ct Tryd.prog 155 [(Value.agg (d9 x0).toArray)] H [] (fun v H' Fo => ∃ (r0 : a8), v = (l9 r0) ∧ Fo = [] ∧ K r0 H') noQE
def o3 (x0 : Sl) (H : Hp) (K : Sl → Hp → Prop) : Prop :=
 Ct Tryd.prog 154 [(vs x0), (Value.func (.func 155) #[] #[])] H [] (fun v H' Fo => ∃ (r0 : Sl), v = (vs r0) ∧ Fo = [] ∧ K r0 H') noQE
def a0k (x0 : B3) (H : Hp) (K : Sl → Hp → Prop) : Prop :=
 Ct Tryd.prog 153 [(Value.agg (d9 x0.d5).toArray)] H [] (fun v H' Fo => ∃ (r0 : Sl), v = (vs r0) ∧ Fo = [] ∧ K r0 H') noQE
def a0E (x0 : D3) (H : Hp) (K : Bool → Hp → Prop) : Prop :=
 Ct Tryd.prog 156 [(Value.agg (g7 x0.C6).toArray)] H [] (fun v H' Fo => ∃ (r0 : Bool), v = (Value.bool r0) ∧ Fo = [] ∧ K r0 H') noQE
def a0l (x0 : D3) (H : Hp) (K : Sl → Hp → Prop) : Prop :=
 Ct Tryd.prog 157 [(Value.agg (g7 x0.C6).toArray)] H [] (fun v H' Fo => ∃ (r0 : Sl), v = (vs r0) ∧ Fo = [] ∧ K r0 H') noQE
def T5 (x0 : B5) (H : Hp) (K : Bool → Hp → Prop) : Prop :=
 Ct Tryd.prog 158 [(Value.agg (f6 x0.b3).toArray)] H [] (fun v H' Fo => ∃ (r0 : Bool), v = (Value.bool r0) ∧ Fo = [] ∧ K r0 H') noQE
def a0m (x0 : B5) (H : Hp) (K : Sl → Hp → Prop) : Prop :=
 Ct Tryd.prog 159 [(Value.agg (f6 x0.b3).toArray)] H [] (fun v H' Fo => ∃ (r0 : Sl), v = (vs r0) ∧ Fo = [] ∧ K r0 H') noQE
def X8 (x : a8) (H : Hp) (K : Bool → Hp → Prop) : Prop := match x with
 | .nil => False
 | .s9 y => T3 y H K
 | .A4 y => T4 y H K
 | .y8 y => a0E y H K
 | .t7 y => T5 y H K
def W4 (x : a8) (H : Hp) (K : Sl → Hp → Prop) : Prop := match x with
 | .nil => False
 | .s9 y => a0j y H K
 | .A4 y => a0k y H K
 | .y8 y => a0l y H K
 | .t7 y => a0m y H K
theorem a4S {E : Pan} {w0 w : World} {ps : Nat → Prop} {H0 H : Hp} {Fr : List Frag} {K : Value → World → Prop} {Kc : Bool → Hp → Prop} {x : a8} (I : Inv w0 ps H0 H Fr w) (h : X8 x H Kc) (hq : ∀ (r0 : Bool) (H' : Hp) (w' : World), Inv w0 ps H0 H' Fr w' → Hle H H' → (∀ i, i < w.heap.size → ¬ inF [] i → w'.heap[i]? = w.heap[i]?) → Kc r0 H' → K (Value.bool r0) w') : opK Tryd.prog E (xInvoke (l9 x) "gnomon/tree.form" []) w K := by
 cases x with
 | nil => exact h.elim
 | s9 y => exact W8 (f := 148) (args := [(Value.agg (c8 y.d8).toArray)].toArray) (by kernel_rfl) (j8 (Fi := []) I h (fun v H' Fo w' I' l hk hq' => by obtain ⟨r0, rfl, rfl, hK⟩ := hq'; exact hq r0 H' w' I' l hk hK) (fun _ _ _ _ _ q => q.elim))
 | A4 y => exact W8 (f := 152) (args := [(Value.agg (d9 y.d5).toArray)].toArray) (by kernel_rfl) (j8 (Fi := []) I h (fun v H' Fo w' I' l hk hq' => by obtain ⟨r0, rfl, rfl, hK⟩ := hq'; exact hq r0 H' w' I' l hk hK) (fun _ _ _ _ _ q => q.elim))
 | y8 y => exact W8 (f := 156) (args := [(Value.agg (g7 y.C6).toArray)].toArray) (by kernel_rfl) (j8 (Fi := []) I h (fun v H' Fo w' I' l hk hq' => by obtain ⟨r0, rfl, rfl, hK⟩ := hq'; exact hq r0 H' w' I' l hk hK) (fun _ _ _ _ _ q => q.elim))
 | t7 y => exact W8 (f := 158) (args := [(Value.agg (f6 y.b3).toArray)].toArray) (by kernel_rfl) (j8 (Fi := []) I h (fun v H' Fo w' I' l hk hq' => by obtain ⟨r0, rfl, rfl, hK⟩ := hq'; exact hq r0 H' w' I' l hk hK) (fun _ _ _ _ _ q => q.elim))
theorem a4G {E : Pan} {w0 w : World} {ps : Nat → Prop} {H0 H : Hp} {Fr : List Frag} {K : Value → World → Prop} {Kc : Sl → Hp → Prop} {x : a8} (I : Inv w0 ps H0 H Fr w) (h : W4 x H Kc) (hq : ∀ (r0 : Sl) (H' : Hp) (w' : World), Inv w0 ps H0 H' Fr w' → Hle H H' → (∀ i, i < w.heap.size → ¬ inF [] i → w'.heap[i]? = w.heap[i]?) → Kc r0 H' → K (vs r0) w') : opK Tryd.prog E (xInvoke (l9 x) "gnomon/tree.parts" []) w K := by
 cases x with
 | nil => exact h.elim
 | s9 y => exact W8 (f := 149) (args := [(Value.agg (c8 y.d8).toArray)].toArray) (by kernel_rfl) (j8 (Fi := []) I h (fun v H' Fo w' I' l hk hq' => by obtain ⟨r0, rfl, rfl, hK⟩ := hq'; exact hq r0 H' w' I' l hk hK) (fun _ _ _ _ _ q => q.elim))
 | A4 y => exact W8 (f := 153) (args := [(Value.agg (d9 y.d5).toArray)].toArray) (by kernel_rfl) (j8 (Fi := []) I h (fun v H' Fo w' I' l hk hq' => by obtain ⟨r0, rfl, rfl, hK⟩ := hq'; exact hq r0 H' w' I' l hk hK) (fun _ _ _ _ _ q => q.elim))
 | y8 y => exact W8 (f := 157) (args := [(Value.agg (g7 y.C6).toArray)].toArray) (by kernel_rfl) (j8 (Fi := []) I h (fun v H' Fo w' I' l hk hq' => by obtain ⟨r0, rfl, rfl, hK⟩ := hq'; exact hq r0 H' w' I' l hk hK) (fun _ _ _ _ _ q => q.elim))
 | t7 y => exact W8 (f := 159) (args := [(Value.agg (f6 y.b3).toArray)].toArray) (by kernel_rfl) (j8 (Fi := []) I h (fun v H' Fo w' I' l hk hq' => by obtain ⟨r0, rfl, rfl, hK⟩ := hq'; exact hq r0 H' w' I' l hk hK) (fun _ _ _ _ _ q => q.elim))
end Go.Proofs.YthldnpmfelniiaaDoor
