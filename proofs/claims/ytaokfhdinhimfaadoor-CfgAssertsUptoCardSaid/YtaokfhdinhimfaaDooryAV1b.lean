/- Typed formulas of the program's functions, and the theorems that the contracts follow from them; printed by lift.py off the code. -/
import Derived.Test.YtaokfhdinhimfaaDooryAV1
namespace Go.Proofs.YtaokfhdinhimfaaDoor
open Go.RowKit
set_option maxRecDepth 100000
set_option maxHeartbeats 2000000
def U5 (H : Hp) (K : Bool → Hp → Prop) : Prop :=
 ∀ (d : Sl) (e : Hp), Hle H e → SlH e 6 j7 d [(j9.mk 7 ⟨#[]⟩ (Sl.mk none 0 0) (Sl.mk none 0 0) (Sl.mk none 0 0) (Sl.mk none 0 0))] → d.n ≤ d.c →
 a1d (m1.mk (Sl.mk none 0 0) d) e (fun b f g =>
 ∃ a : c8, (((((decide (f = 0)) && (decide (b.A9 = 2))) && (decide (b.C2 = 1))) && (decide ((b.Y6.n : Int) = 1))) = true → (0 : Int) ≤ 0 ∧ (0 : Int) < b.Y6.n ∧ EltH g b.Y6 0 10 (g8 a)) ∧
 K (((((decide (f = 0)) && (decide (b.A9 = 2))) && (decide (b.C2 = 1))) && (decide ((b.Y6.n : Int) = 1))) && (decide (a.Q5 = 0 ∧ a.fTo = 1 ∧ a.d5 = 1 ∧ a.a1Y = (-1) ∧ a.Z3 = (-1) ∧ a.fOp = 0 ∧ a.fA.G1 = (-1) ∧ a.fA.y8 = 0 ∧ a.fB.G1 = (-1) ∧ a.fB.y8 = 0))) g)
theorem a3S {H : Hp} {K : Bool → Hp → Prop} (h : U5 H K) : U1 H K := by
 refine Ct.of fun w0 w ps0 H0 R E I hR => b8o ?_
 unfold U5 at h
 unfold F6
 refine c5 (b1a _) ?_
 refine a0p (e := 39) (c := j7) (xs := [(j9.mk 7 ⟨#[]⟩ (Sl.mk none 0 0) (Sl.mk none 0 0) (Sl.mk none 0 0) (Sl.mk none 0 0))]) I (b5z _ _ _ _ _ _ _ _ _ _ _ _ _ _) rfl rfl a9f a9g (nb rfl) fun k y z l m aa => ?_
 refine c5 (b1b _ _ _) ?_
 obtain ⟨o, p, q, r, s⟩ := Inv.freezeC m l (by decide)
 replace h := h k o q r s
 refine d9 Tryd.call7 h p ?_
 rintro _ t _ ab u _ _ ⟨i, j, rfl, rfl, h⟩
 refine c5 (g9 _ _ _ rfl) ?_
 refine c5 (g9 _ _ (vi j) rfl) ?_
 refine q9 u Tryd.zeroValue30 (cs := [(Value.slice none 0 0), (vi 0), (Value.slice none 0 0), (vi 0), (vi 0), (Value.slice none 0 0)]) rfl fun ac ad v ae => ?_
 refine s9 v Tryd.sizeOf30 (vs := (v6 i)) fun af d ag => ?_
 refine c5 (f8 _ _ _ _ _ _) ?_
 refine c5 (Pu.g fun hb => by have a := hb; with_reducible exact a2s) ?_
 refine d3 (Ld.g fun hb => by have a := hb; simp only [r7 a]; exact (l1 Tryd.isAgg3 d rfl)) ?_
 refine c5 (Pu.g fun hb => by have a := hb; simp only [r7 a]; with_reducible exact (f8 _ _ _ _ _ _)) ?_
 refine c5 (L2 _ _) ?_
 refine c5 (Pu.g fun hb => by have a := hb; with_reducible exact a3M) ?_
 refine d3 (Ld.g fun hb => by have a := hb; simp only [r7 a]; exact (l1 Tryd.isAgg3 d rfl)) ?_
 refine c5 (Pu.g fun hb => by have a := hb; simp only [r7 a]; with_reducible exact (f8 _ _ _ _ _ _)) ?_
 refine c5 (L2 _ _) ?_
 refine c5 (Pu.g fun hb => by have a := hb; with_reducible exact a0q) ?_
 refine d3 (Ld.g fun hb => by have a := hb; simp only [r7 a]; exact (l1 Tryd.isAgg28 d rfl)) ?_
 refine c5 (Pu.g fun hb => by have a := hb; simp only [r7 a]; with_reducible exact (a8R _ _ _)) ?_
 refine c5 (Pu.g fun hb => by have a := hb; simp only [r7 a]; with_reducible exact (f8 _ _ _ _ _ _)) ?_
 refine c5 (L2 _ _) ?_
 refine c5 (Pu.g fun hb => by have a := hb; with_reducible exact a0q) ?_
 refine d3 (Ld.g fun hb => by have a := hb; simp only [r7 a]; exact (l1 Tryd.isAgg28 d rfl)) ?_
 obtain ⟨f, b, h⟩ := h
 obtain ⟨ah, ai, b⟩ := b4K b
 refine c5 (Pu.g fun hb => by have a := hb; simp only [r7 a]; with_reducible exact (a9E (b hb).2.2.1 _ _ _ _ (b hb).1 (b hb).2.1)) ?_
 refine d3 (Ld.g fun hb => by have a := hb; simp only [r7 a]; exact (ldA (vs := (g8 f)) Tryd.isAgg46 Tryd.sizeOf46 rfl (d.atH (b hb).2.2.2))) ?_
 refine c5 (Pu.g fun hb => by have a := hb; with_reducible exact (a1Q _)) ?_
 refine c5 (Pu.g fun hb => by have a := hb; with_reducible exact (a1Q _)) ?_
 refine c5 (Pu.g fun hb => by have a := hb; simp only [r7 a]; with_reducible exact (a5c _ _ _ _ _ _ _ _)) ?_
 refine c5 (Pu.g fun hb => by have a := hb; simp only [r7 a]; with_reducible exact (b4c _ _ _ _ _ _ _ _ _ _ _ _ _ _ _ _ _ _ _ _ _ _)) ?_
 refine c5 (L2 _ _) ?_
 exact hR _ t _ _ d.drop ⟨(((((decide (j = 0)) && (decide (i.A9 = 2))) && (decide (i.C2 = 1))) && (decide ((i.Y6.n : Int) = 1))) && (decide (f.Q5 = 0 ∧ f.fTo = 1 ∧ f.d5 = 1 ∧ f.a1Y = (-1) ∧ f.Z3 = (-1) ∧ f.fOp = 0 ∧ f.fA.G1 = (-1) ∧ f.fA.y8 = 0 ∧ f.fB.G1 = (-1) ∧ f.fB.y8 = 0))), rfl, rfl, h⟩
def B1 (b7H : Sl) (a6E : Int) (b2a : Int) (H : Hp) (n2 : (Int × Int) → Hp → Prop) (K : Int → Hp → Prop) : Prop :=
 (0 : Int) ≤ b2a ∧ (b2a : Int) < b7H.n ∧ ∃ a : j9, EltH H b7H b2a 6 (j7 a) ∧
 E6 a.D8 H (fun b c =>
 E6 a.D9 c (fun d e =>
 n2 ((IntKind.wrap .i64 ((IntKind.wrap .i64 (a6E + b)) + d)), (IntKind.wrap .i64 (b2a + 1))) e))
def G8 (a0x : Int) (H : Hp) (K : Int → Hp → Prop) : Prop :=
 K a0x H
def O3 (a8z : Sl) (a4X : Int) (a2C : Int) (H : Hp) (n2 : (Int × Int) → Hp → Prop) (K : Int → Hp → Prop) : Prop :=
 (a2C < (a8z.n : Int) →
 (0 : Int) ≤ a2C ∧ (a2C : Int) < a8z.n ∧ ∃ a : j9, EltH H a8z a2C 6 (j7 a) ∧
 (a.d5 = 5 →
 B1 a8z (IntKind.wrap .i64 (a4X + 1)) a2C H n2 K) ∧
 (¬ (a.d5 = 5) →
 B1 a8z a4X a2C H n2 K)) ∧
 (¬ (a2C < (a8z.n : Int)) →
 G8 a4X H K)
def R5 (x0 : Sl) (H : Hp) (K : Int → Hp → Prop) : Prop :=
 TL ((0, 0) : Int × Int) H fun (s : Int × Int) H n2 => O3 x0 s.1 s.2 H n2 K
theorem a3r (x0 : Sl) {H : Hp} {K : Int → Hp → Prop} (h : R5 x0 H K) : E6 x0 H K := by
 refine Ct.of fun w0 w ps0 H0 R E I hR => b8q ?_
 unfold R5 at h
 unfold F8
 have hj1 : ∀ (a0x : Int) (H : Hp) (w : World) (_ : Inv w0 ps0 H0 H [] w) (_ : G8 a0x H K), b1V (vi a0x) w R E := by
  intro a0x H w I h
  unfold b1V
  intro _
  unfold G8 at h
  exact hR _ H _ _ I ⟨a0x, rfl, rfl, h⟩
 refine r5 fun j1 hx1 => ?_
 refine a1X (σ := Int × Int) (fun (a4X, a2C) => [(vi a4X), (vi a2C)]) (fun (a4X, a2C) => []) h rfl I ?_
 rintro ⟨a4X, a2C⟩ H u w next2 n2 c I h hn2
 dsimp only at c I h
 simp only [List.map_cons, List.map_nil, List.cons.injEq, and_true] at c
 obtain ⟨e3, e4⟩ := c
 simp only [e3, e4]
 unfold b4O
 unfold O3 at h
 refine c5 (R0 _ _ _) ?_
 refine c5 (D1 _ _ _ _ _ _) ?_
 refine d7 h (fun _ h => ?_) (fun _ h => ?_)
 ·have hj3 : ∀ (a6E : Int) (H : Hp) (w : World) (_ : Inv w0 ps0 H0 H [] w) (_ : B1 x0 a6E a2C H n2 K), b1W (vs x0) (vi a6E) (vi a2C) w next2 R E := by
   intro a6E H w I h
   unfold b1W
   intro _
   unfold B1 at h
   refine N7 I fun y b => ?_
   obtain ⟨e, f, g, a, h⟩ := h
   obtain ⟨z, aa, i, a⟩ := a
   refine f7 (a2M i _ _ _ _ e f) ?_
   refine f7 Y7 ?_
   refine f7 (a2M i _ _ _ _ e f) ?_
   refine f7 a0r ?_
   refine o8 (ld1 (v := (vs g.D8)) Tryd.isAgg37 ((b.atH a).sub (k := 4) (n := 1) (nb rfl))) ?_
   refine o8 (ld1 (v := (vs g.D9)) Tryd.isAgg37 ((b.atH a).sub (k := 5) (n := 1) (nb rfl))) ?_
   refine d9 Tryd.call8 h b ?_
   rintro _ _ _ ab j _ l ⟨m, rfl, rfl, h⟩
   refine ⟨(l _ (b.b2E a) ((Inv.self (Fi := []) (Fr := []) b).b1l a)), ?_⟩
   refine f7 (s8 _ _ _ _ _ _) ?_
   refine d9 Tryd.call8 h j ?_
   rintro _ _ _ ac o _ _ ⟨p, rfl, rfl, h⟩
   refine f7 (s8 _ _ _ _ _ _) ?_
   refine c5 (s8 _ _ _ _ _ _) ?_
   exact hn2 ((IntKind.wrap .i64 ((IntKind.wrap .i64 (a6E + m)) + p)), (IntKind.wrap .i64 (a2C + 1))) _ _ h o
  refine r5 fun j3 hx3 => ?_
  obtain ⟨q, r, s, d, h⟩ := h
  obtain ⟨ad, ae, t, d⟩ := d
  refine c5 (a2M t _ _ _ _ q r) ?_
  refine c5 a1t ?_
  refine d3 (ld1 (v := (vi s.d5)) Tryd.isAgg3 ((I.atH d).sub (k := 0) (n := 1) (nb rfl))) ?_
  refine c5 (f8 _ _ _ _ _ _) ?_
  refine d7 h (fun _ h => ?_) (fun _ h => ?_)
  ·refine c5 (s8 _ _ _ _ _ _) ?_
   exact hx3 _ _ (hj3 (IntKind.wrap .i64 (a4X + 1)) H _ I h)
  ·exact hx3 _ _ (hj3 a4X H _ I h)
 ·exact hx1 _ _ (hj1 a4X H _ I h)
def t7 (a8A : Int) (a8B : Int) (b8Y : Int) (a : C0) (b : m1) (H : Hp) (n2 : (Int × Int × Int) → Hp → Prop) (K : Bool → Hp → Prop) : Prop :=
 n2 (a8A, a8B, (IntKind.wrap .i64 (b8Y + 1))) H
def E5 (a0S : Int) (a8C : Int) (d : C0) (b : m1) (H : Hp) (K : Bool → Hp → Prop) : Prop :=
 E6 b.a1W H (fun a c =>
 K ((decide (a0S = a)) && (decide (a8C = a))) c)
def L5 (a : C0) (c : m1) (a1K : Int) (a3G : Int) (P6 : Int) (H : Hp) (n2 : (Int × Int × Int) → Hp → Prop) (K : Bool → Hp → Prop) : Prop :=
 (P6 < (a.Y6.n : Int) →
 (0 : Int) ≤ P6 ∧ (P6 : Int) < a.Y6.n ∧ ∃ b : c8, EltH H a.Y6 P6 10 (g8 b) ∧
 (b.d5 = 13 →
 t7 (IntKind.wrap .i64 (a1K + 1)) a3G P6 a c H n2 K) ∧
 (¬ (b.d5 = 13) →
 (b.d5 = 14 →
 t7 a1K (IntKind.wrap .i64 (a3G + 1)) P6 a c H n2 K) ∧
 (¬ (b.d5 = 14) →
 t7 a1K a3G P6 a c H n2 K))) ∧
 (¬ (P6 < (a.Y6.n : Int)) →
 E5 a1K a3G a c H K)
def O4 (x0 : m1) (H : Hp) (K : Bool → Hp → Prop) : Prop :=
 U1 H (fun a b =>
 ((!a) = true →
 K false b) ∧
 ((!a) = false →
 a1d x0 b (fun e c d =>
 (¬ (c = 0) →
 K true d) ∧
 (c = 0 →
 TL ((0, 0, 0) : Int × Int × Int) d fun (s : Int × Int × Int) H n2 => L5 e x0 s.1 s.2.1 s.2.2 H n2 K))))
theorem a2D (x0 : m1) {H : Hp} {K : Bool → Hp → Prop} (h : O4 x0 H K) : O1 x0 H K := by
 refine Ct.of fun w0 w ps0 H0 R E I hR => b8j ?_
 unfold O4 at h
 unfold F4
 refine C1 I (cs := (m0 x0)) rfl fun c ac m ad => ?_
 refine d9 Tryd.call6 h m ?_
 rintro _ o _ ae e _ _ ⟨af, rfl, rfl, h⟩
 refine c5 (W0 _) ?_
 refine s7 h (fun _ h => ?_) (fun _ h => ?_)
 ·exact hR _ o _ _ e.drop ⟨false, rfl, rfl, h⟩
 ·refine d3 (lW Tryd.isAgg41 Tryd.sizeOf41 rfl e) ?_
  refine d9 Tryd.call7 h e ?_
  rintro _ p _ ag q _ _ ⟨b, r, rfl, rfl, h⟩
  refine c5 (g9 _ _ _ rfl) ?_
  refine c5 (g9 _ _ (vi r) rfl) ?_
  refine q9 q Tryd.zeroValue30 (cs := [(Value.slice none 0 0), (vi 0), (Value.slice none 0 0), (vi 0), (vi 0), (Value.slice none 0 0)]) rfl fun d ah s ai => ?_
  refine s9 s Tryd.sizeOf30 (vs := (v6 b)) fun aj j ak => ?_
  refine c5 (a0Z _ _ _ _ _ _) ?_
  refine a5t h (fun _ h => ?_) (fun _ h => ?_)
  ·exact hR _ p _ _ j.drop.drop ⟨true, rfl, rfl, h⟩
  ·have hj1 : ∀ (a0S : Int) (a8C : Int) (H : Hp) (w : World) (_ : Inv w0 ps0 H0 H [bx d 30 (v6 b), bx c 41 (m0 x0)] w) (_ : E5 a0S a8C b x0 H K), b1Q (Value.pointer (some ⟨c, 0, none⟩)) (vi a0S) (vi a8C) w R E := by
    intro a0S a8C H w I h
    unfold b1Q
    intro _
    unfold E5 at h
    refine c5 a2t ?_
    refine d3 (l1 Tryd.isAgg37 (I.bring 1) rfl) ?_
    refine d9 Tryd.call8 h I ?_
    rintro _ t _ al u _ _ ⟨l, rfl, rfl, h⟩
    refine c5 (f8 _ _ _ _ _ _) ?_
    simp only [Y3]
    refine c5 (Pu.g fun hb => by have a := hb; simp only [r7 a]; with_reducible exact (f8 _ _ _ _ _ _)) ?_
    refine c5 (L2 _ _) ?_
    exact hR _ t _ _ u.drop.drop ⟨((decide (a0S = l)) && (decide (a8C = l))), rfl, rfl, h⟩
   refine r5 fun j1 hx1 => ?_
   refine a1X (σ := Int × Int × Int) (fun (a1K, a3G, P6) => [(vi a1K), (vi a3G), (vi P6)]) (fun (a1K, a3G, P6) => [bx d 30 (v6 b), bx c 41 (m0 x0)]) h rfl ((j.bring 1).bring 1) ?_
   rintro ⟨a1K, a3G, P6⟩ H am w next2 n2 f I h hn2
   dsimp only at f I h
   simp only [List.map_cons, List.map_nil, List.cons.injEq, and_true] at f
   obtain ⟨e5, e6, e7⟩ := f
   simp only [e5, e6, e7]
   unfold b4L
   unfold L5 at h
   refine c5 a0q ?_
   refine d3 (l1 Tryd.isAgg28 I rfl) ?_
   refine c5 (a8R _ _ _) ?_
   refine c5 (D1 _ _ _ _ _ _) ?_
   refine d7 h (fun _ h => ?_) (fun _ h => ?_)
   ·have hj3 : ∀ (a8A : Int) (a8B : Int) (H : Hp) (w : World) (_ : Inv w0 ps0 H0 H [bx d 30 (v6 b), bx c 41 (m0 x0)] w) (_ : t7 a8A a8B P6 b x0 H n2 K), b1R (Value.pointer (some ⟨c, 0, none⟩)) (Value.pointer (some ⟨d, 0, none⟩)) (vi a8A) (vi a8B) (vi P6) w next2 R E := by
     intro a8A a8B H w I h
     unfold b1R
     intro _
     unfold t7 at h
     refine c5 (s8 _ _ _ _ _ _) ?_
     exact hn2 (a8A, a8B, (IntKind.wrap .i64 (P6 + 1))) _ _ h ((I.bring 1).bring 1)
    refine r5 fun j3 hx3 => ?_
    refine c5 a0q ?_
    refine d3 (l1 Tryd.isAgg28 I rfl) ?_
    obtain ⟨y, z, aa, i, h⟩ := h
    obtain ⟨an, ao, ab, i⟩ := i
    refine c5 (a9E ab _ _ _ _ y z) ?_
    refine c5 b1I ?_
    refine d3 (ld1 (v := (vi aa.d5)) Tryd.isAgg3 ((I.atH i).sub (k := 2) (n := 1) (nb rfl))) ?_
    refine c5 (f8 _ _ _ _ _ _) ?_
    refine d7 h (fun _ h => ?_) (fun _ h => ?_)
    ·refine c5 (s8 _ _ _ _ _ _) ?_
     exact hx3 _ _ (hj3 (IntKind.wrap .i64 (a1K + 1)) a3G H _ ((I.bring 1).bring 1) h)
    ·refine c5 (f8 _ _ _ _ _ _) ?_
     refine d7 h (fun _ h => ?_) (fun _ h => ?_)
     ·refine c5 (s8 _ _ _ _ _ _) ?_
      exact hx3 _ _ (hj3 a1K (IntKind.wrap .i64 (a3G + 1)) H _ ((I.bring 1).bring 1) h)
     ·exact hx3 _ _ (hj3 a1K a3G H _ ((I.bring 1).bring 1) h)
   ·exact hx1 _ _ (hj1 a1K a3G H _ ((I.bring 1).bring 1) h)
def a2E (H : Hp) (K : j8 → Hp → Prop) : Prop :=
 K (j8.mk (-1) 0) H
theorem a5K {H : Hp} {K : j8 → Hp → Prop} (h : a2E H K) : O2 H K := by
 refine Ct.of fun w0 w ps0 H0 R E I hR => b6L ?_
 unfold a2E at h
 unfold F39
 refine q9 I Tryd.zeroValue44 (cs := [(vi 0), (vi 0)]) rfl fun c d b e => ?_
 refine c5 (a1Q _) ?_
 refine s9 b Tryd.sizeOf44 (vs := [(vi (-1)), (vi 0)]) fun f a g => ?_
 refine R9 Tryd.isAgg44 Tryd.sizeOf44 rfl a ?_
 exact hR _ H _ _ a.drop ⟨(j8.mk (-1) 0), rfl, rfl, h⟩
def E3 (a : c8) (a3s : Sl) (a3t : Int) (a3u : Sl) (a3v : Int) (a3w : Int) (b2b : (List c8)) (a5h : (Option Nat)) (a5i : (Option Nat)) (e : i5) (H : Hp) (K : d2 → (List c8) → Hp → Prop) : Prop :=
 o5 (d2.mk (C0.mk a3s a3t a3u a3v a3w (Sl.mk none 0 0)) a5h a5i) b2b a H (fun b c d =>
 K (c6 b) c d)
def z2 (a : c8) (J9 : Sl) (K0 : Int) (K1 : Sl) (K2 : Int) (K3 : Int) (G9 : (List c8)) (E9 : (Option Nat)) (E4 : (Option Nat)) (b : i5) (H : Hp) (K : d2 → (List c8) → Hp → Prop) : Prop :=
 (b.d5 = 4 →
 ∃ c : List (ByteArray × Int), MapH H (fun s : ByteArray => Value.string s) (fun n : Int => Value.int .i64 n) E4 c ∧
 E3 (c8.mk a.Q5 a.fTo a.d5 a.a1Y ((lk b.d8 c).getD 0) a.fOp a.fA a.fB) J9 K0 K1 K2 K3 G9 E9 E4 b H K) ∧
 (¬ (b.d5 = 4) →
 E3 a J9 K0 K1 K2 K3 G9 E9 E4 b H K)
def U6 (x0 : d2) (e : (List c8)) (x1 : i5) (x2 : Int) (x3 : Int) (x4 : Int) (x5 : Int) (H : Hp) (K : d2 → (List c8) → Hp → Prop) : Prop :=
 a0P x1.d5 H (fun g i =>
 B6 x3 x4 g i (fun a d =>
 ((x1.u7.n : Int) = 1 →
 (0 : Int) ≤ 0 ∧ (0 : Int) < x1.u7.n ∧ ∃ f : i5, EltH d x1.u7 0 4 (f6 f) ∧
 E2 (c6 x0) e f x3 x5 d (fun j k b l m =>
 z2 (c8.mk k a.fTo a.d5 x2 a.Z3 a.fOp j a.fB) b.fc.u9 b.fc.J7 b.fc.A7 b.fc.A9 b.fc.C2 l b.fvars b.farrays x1 m K)) ∧
 (¬ ((x1.u7.n : Int) = 1) →
 ((x1.u7.n : Int) = 2 →
 J8 (c6 x0) e x1.u7 x3 x5 d (fun o p q c r s =>
 z2 (c8.mk q a.fTo a.d5 x2 a.Z3 a.fOp o p) c.fc.u9 c.fc.J7 c.fc.A7 c.fc.A9 c.fc.C2 r c.fvars c.farrays x1 s K)) ∧
 (¬ ((x1.u7.n : Int) = 2) →
 z2 (c8.mk a.Q5 a.fTo a.d5 x2 a.Z3 a.fOp a.fA a.fB) x0.fc.u9 x0.fc.J7 x0.fc.A7 x0.fc.A9 x0.fc.C2 e x0.fvars x0.farrays x1 d K))))
theorem a3T (x0 : d2) (l : (List c8)) (x1 : i5) (x2 : Int) (x3 : Int) (x4 : Int) (x5 : Int) {H : Hp} {K : d2 → (List c8) → Hp → Prop} (h : U6 x0 l x1 x2 x3 x4 x5 H K) : M9 x0 l x1 x2 x3 x4 x5 H K := by
 intro g0 m n o
 refine Ct.of fun w0 w ps0 H0 R E I hR => b6S ?_
 unfold U6 at h
 unfold F46
 refine C1 I (cs := (f6 x1)) rfl fun p bk s bl => ?_
 refine c5 O0 ?_
 refine d3 (l1 Tryd.isAgg3 s rfl) ?_
 refine d9 Tryd.call52 h s ?_
 rintro _ bm _ bn v _ _ ⟨bo, rfl, rfl, h⟩
 refine d9 Tryd.call29 h v ?_
 rintro _ y _ bp aa _ _ ⟨a, rfl, rfl, h⟩
 refine q9 aa Tryd.zeroValue46 (cs := [(vi 0), (vi 0), (vi 0), (vi 0), (vi 0), (vi 0), (vi 0), (vi 0), (vi 0), (vi 0)]) rfl fun g bq ab br => ?_
 refine s9 ab Tryd.sizeOf46 (vs := (g8 a)) fun bs ac bt => ?_
 refine c5 a7S ?_
 refine N8 ac Tryd.sizeOf3 fun bu c bv => ?_
 have hj1 : ∀ (b : c8) (J9 : Sl) (K0 : Int) (K1 : Sl) (K2 : Int) (K3 : Int) (G9 : (List c8)) (E9 : (Option Nat)) (E4 : (Option Nat)) (Q8 : Sl) (Q9 : Frag) (H : Hp) (w : World) (_ : RowL 46 10 g8 Q8 G9 Q9) (_ : Inv w0 ps0 H0 H [bx g 46 (g8 b), bx g0 59 [(vs J9), (vi K0), (vs K1), (vi K2), (vi K3), (vs Q8), (Value.map E9), (Value.map E4)], bx p 25 (f6 x1), Q9] w) (_ : z2 b J9 K0 K1 K2 K3 G9 E9 E4 x1 H K), b0a (Value.pointer (some ⟨g0, 0, none⟩)) (Value.pointer (some ⟨p, 0, none⟩)) (Value.pointer (some ⟨g, 0, none⟩)) w R E := by
  intro b J9 K0 K1 K2 K3 G9 E9 E4 Q8 Q9 H w a5L I h
  unfold b0a
  intro _
  unfold z2 at h
  have hj2 : ∀ (q : c8) (a3s : Sl) (a3t : Int) (a3u : Sl) (a3v : Int) (a3w : Int) (a5h : (Option Nat)) (a5i : (Option Nat)) (H : Hp) (w : World) (_ : Inv w0 ps0 H0 H [bx g 46 (g8 q), bx g0 59 [(vs a3s), (vi a3t), (vs a3u), (vi a3v), (vi a3w), (vs Q8), (Value.map a5h), (Value.map a5i)], bx p 25 (f6 x1), Q9] w) (_ : E3 q a3s a3t a3u a3v a3w G9 a5h a5i x1 H K), a9Z (Value.pointer (some ⟨g0, 0, none⟩)) (Value.pointer (some ⟨g, 0, none⟩)) w R E := by
   intro q a3s a3t a3u a3v a3w a5h a5i H w I h
   unfold a9Z
   intro _
   unfold E3 at h
   refine d3 (lW Tryd.isAgg46 Tryd.sizeOf46 rfl I) ?_
   refine d9 Tryd.call31 (h g0 Q8 Q9 a5L) ((I.bring 3).bring 2) ?_
   rintro _ ad _ bw ae _ _ ⟨af, ag, ah, ai, rfl, rfl, aj, h⟩
   exact hR _ ad _ _ ((((ae.bring 2).drop.bring 2).drop.bring 1).bring 1) ⟨(c6 af), ag, ah, ai, rfl, rfl, aj, h⟩
  refine r5 fun j2 hx2 => ?_
  refine c5 O0 ?_
  refine d3 (l1 Tryd.isAgg3 (I.bring 2) rfl) ?_
  refine c5 (f8 _ _ _ _ _ _) ?_
  refine d7 h (fun _ h => ?_) (fun _ h => ?_)
  ·refine N7 I fun bz i => ?_
   refine f7 (m5 _) ?_
   refine f7 a5C ?_
   refine f7 a1u ?_
   refine o8 (l1 Tryd.isAgg57 (i.bring 1) rfl) ?_
   refine o8 (l1 Tryd.isAgg9 (i.bring 2) rfl) ?_
   obtain ⟨ak, al, h⟩ := h
   refine a5y (keyS Tryd.underlying9) Tryd.underlying57 (z := 0) Tryd.zeroValue3 i al x1.d8 ?_
   refine f7 a7V ?_
   refine N8 i Tryd.sizeOf3 fun ca am cb => ?_
   exact hx2 _ _ (hj2 (c8.mk b.Q5 b.fTo b.d5 b.a1Y ((lk x1.d8 ak).getD 0) b.fOp b.fA b.fB) J9 K0 K1 K2 K3 E9 E4 H _ ((((am.bring 3).bring 3).bring 3).bring 3) h)
  ·exact hx2 _ _ (hj2 b J9 K0 K1 K2 K3 E9 E4 H _ ((((I.bring 3).bring 3).bring 3).bring 3) h)
 refine r5 fun j1 hx1 => ?_
 refine c5 Z0 ?_
 refine d3 (l1 Tryd.isAgg23 (c.bring 1) rfl) ?_
 refine c5 (a0o _ _ _) ?_
 refine c5 (f8 _ _ _ _ _ _) ?_
 refine d7 h (fun _ h => ?_) (fun _ h => ?_)
 ·refine c5 Z0 ?_
  refine d3 (l1 Tryd.isAgg23 (c.bring 1) rfl) ?_
  obtain ⟨an, ao, ap, r, h⟩ := h
  obtain ⟨cc, cd, aq, r⟩ := r
  refine c5 (Z4 aq _ _ _ _ an ao) ?_
  refine d3 (ldA (vs := (f6 ap)) Tryd.isAgg25 Tryd.sizeOf25 rfl (c.atH r)) ?_
  refine d9 Tryd.call47 (h g0 m n o) ((c.bring 3).bring 3) ?_
  rintro _ ar _ ce au _ _ ⟨j, t, d, av, aw, ax, rfl, rfl, ay, h⟩
  refine c5 (g9 _ _ _ rfl) ?_
  refine c5 (g9 _ _ (vi t) rfl) ?_
  refine c5 a2v ?_
  refine V4 (au.bring 2) Tryd.sizeOf44 (vs := (m4 j)) (cs' := [(vi a.Q5), (vi a.fTo), (vi a.d5), (vi x2), (vi a.Z3), (vi a.fOp), (vi j.G1), (vi j.y8), (vi a.fB.G1), (vi a.fB.y8)]) rfl rfl (nb rfl) rfl rfl fun cf az cg => ?_
  refine c5 a5A ?_
  refine N8 az Tryd.sizeOf3 fun ch ba ci => ?_
  exact hx1 _ _ (hj1 (c8.mk t a.fTo a.d5 x2 a.Z3 a.fOp j a.fB) d.fc.u9 d.fc.J7 d.fc.A7 d.fc.A9 d.fc.C2 av d.fvars d.farrays aw ax ar _ ay ((((ba.bring 2).bring 3).bring 3).bring 3) h)
 ·refine c5 (f8 _ _ _ _ _ _) ?_
  refine d7 h (fun _ h => ?_) (fun _ h => ?_)
  ·refine c5 Z0 ?_
   refine d3 (l1 Tryd.isAgg23 (c.bring 1) rfl) ?_
   refine d9 Tryd.call30 (h g0 m n o) ((c.bring 3).bring 3) ?_
   rintro _ bb _ cj bc _ _ ⟨f, k, u, e, bd, be, bf, rfl, rfl, bg, h⟩
   refine c5 (g9 _ _ _ rfl) ?_
   refine c5 (g9 _ _ _ rfl) ?_
   refine c5 (g9 _ _ (vi u) rfl) ?_
   refine c5 a2v ?_
   refine V4 (bc.bring 2) Tryd.sizeOf44 (vs := (m4 f)) (cs' := [(vi a.Q5), (vi a.fTo), (vi a.d5), (vi x2), (vi a.Z3), (vi a.fOp), (vi f.G1), (vi f.y8), (vi a.fB.G1), (vi a.fB.y8)]) rfl rfl (nb rfl) rfl rfl fun ck bh cl => ?_
   refine c5 a5D ?_
   refine V4 bh Tryd.sizeOf44 (vs := (m4 k)) (cs' := [(vi a.Q5), (vi a.fTo), (vi a.d5), (vi x2), (vi a.Z3), (vi a.fOp), (vi f.G1), (vi f.y8), (vi k.G1), (vi k.y8)]) rfl rfl (nb rfl) rfl rfl fun cm bi cn => ?_
   refine c5 a5A ?_
   refine N8 bi Tryd.sizeOf3 fun co bj cp => ?_
   exact hx1 _ _ (hj1 (c8.mk u a.fTo a.d5 x2 a.Z3 a.fOp f k) e.fc.u9 e.fc.J7 e.fc.A7 e.fc.A9 e.fc.C2 bd e.fvars e.farrays be bf bb _ bg ((((bj.bring 2).bring 3).bring 3).bring 3) h)
  ·exact hx1 _ _ (hj1 (c8.mk a.Q5 a.fTo a.d5 x2 a.Z3 a.fOp a.fA a.fB) x0.fc.u9 x0.fc.J7 x0.fc.A7 x0.fc.A9 x0.fc.C2 l x0.fvars x0.farrays m n y _ o ((((c.bring 3).bring 2).bring 3).bring 3) h)
def R6 (x0 : d2) (b : (List c8)) (x1 : Int) (x2 : i5) (x3 : Int) (x4 : Int) (H : Hp) (K : d2 → (List c8) → Hp → Prop) : Prop :=
 L8 (c6 x0) b x2 H (fun e c d =>
 ((!c) = true →
 M9 (c6 x0) b x2 x1 x3 x4 0 d (fun f g i =>
 K (c6 f) g i)) ∧
 ((!c) = false →
 B6 x3 x4 2 d (fun a j =>
 o5 (c6 x0) b (c8.mk a.Q5 a.fTo a.d5 x1 a.Z3 a.fOp e a.fB) j (fun k l m =>
 K (c6 k) l m))))
theorem a3x (x0 : d2) (i : (List c8)) (x1 : Int) (x2 : i5) (x3 : Int) (x4 : Int) {H : Hp} {K : d2 → (List c8) → Hp → Prop} (h : R6 x0 i x1 x2 x3 x4 H K) : R2 x0 i x1 x2 x3 x4 H K := by
 intro g0 c d e
 refine Ct.of fun w0 w ps0 H0 R E I hR => b6F ?_
 unfold R6 at h
 unfold F28
 refine C1 I (cs := (f6 x2)) rfl fun ak al j am => ?_
 refine d3 (lW Tryd.isAgg25 Tryd.sizeOf25 rfl j) ?_
 refine d9 Tryd.call45 (h g0 c d e) ((j.bring 2).bring 2) ?_
 rintro _ _ _ an l _ _ ⟨b, m, rfl, rfl, h⟩
 refine c5 (g9 _ _ _ rfl) ?_
 refine c5 (g9 _ _ (Value.bool m) rfl) ?_
 refine q9 l Tryd.zeroValue44 (cs := [(vi 0), (vi 0)]) rfl fun ao ap n aq => ?_
 refine s9 n Tryd.sizeOf44 (vs := (m4 b)) fun ar f au => ?_
 refine c5 (W0 _) ?_
 refine s7 h (fun _ h => ?_) (fun _ h => ?_)
 ·refine d3 (lW Tryd.isAgg25 Tryd.sizeOf25 rfl (f.bring 3)) ?_
  refine d9 Tryd.call46 (h g0 c d e) ((f.bring 2).bring 2) ?_
  rintro _ p _ av q _ _ ⟨r, s, t, u, rfl, rfl, v, h⟩
  exact hR _ p _ _ ((((q.bring 2).drop.bring 2).drop.bring 1).bring 1) ⟨(c6 r), s, t, u, rfl, rfl, v, h⟩
 ·refine d9 Tryd.call29 h f ?_
  rintro _ _ _ aw y _ _ ⟨a, rfl, rfl, h⟩
  refine q9 y Tryd.zeroValue46 (cs := [(vi 0), (vi 0), (vi 0), (vi 0), (vi 0), (vi 0), (vi 0), (vi 0), (vi 0), (vi 0)]) rfl fun ax ay z az => ?_
  refine s9 z Tryd.sizeOf46 (vs := (g8 a)) fun ba aa bb => ?_
  refine N7 aa fun bc g => ?_
  refine f7 a7S ?_
  refine o8 (lW Tryd.isAgg44 Tryd.sizeOf44 rfl (g.bring 1)) ?_
  refine N8 g Tryd.sizeOf3 fun bd ab ac => ?_
  refine ⟨(ac _ (Inv.a9w ((g.bring 1).bring 1))), ?_⟩
  refine f7 a2v ?_
  refine V4 ab Tryd.sizeOf44 (vs := (m4 b)) (cs' := [(vi a.Q5), (vi a.fTo), (vi a.d5), (vi x1), (vi a.Z3), (vi a.fOp), (vi b.G1), (vi b.y8), (vi a.fB.G1), (vi a.fB.y8)]) rfl rfl (nb rfl) rfl rfl fun be k bf => ?_
  refine d3 (ldA Tryd.isAgg46 Tryd.sizeOf46 rfl (k.at1 (o := 0) (vs := [(vi a.Q5), (vi a.fTo), (vi a.d5), (vi x1), (vi a.Z3), (vi a.fOp), (vi b.G1), (vi b.y8), (vi a.fB.G1), (vi a.fB.y8)]) (nb rfl) rfl)) ?_
  refine d9 Tryd.call31 (h g0 c d e) ((k.bring 3).bring 3) ?_
  rintro _ ad _ bg ae _ _ ⟨af, ag, ah, ai, rfl, rfl, aj, h⟩
  exact hR _ ad _ _ (((((ae.bring 2).drop.bring 2).drop.bring 2).drop.bring 1).bring 1) ⟨(c6 af), ag, ah, ai, rfl, rfl, aj, h⟩
def U7 (x0 : d2) (a : (List c8)) (x1 : j9) (x2 : Int) (x3 : Int) (H : Hp) (K : d2 → (List c8) → Hp → Prop) : Prop :=
 (x1.d5 = 1 →
 ∃ c : List (ByteArray × Int), MapH H (fun s : ByteArray => Value.string s) (fun n : Int => Value.int .i64 n) x0.fvars c ∧
 (0 : Int) ≤ 0 ∧ (0 : Int) < x1.g5.n ∧ ∃ d : i5, EltH H x1.g5 0 4 (f6 d) ∧
 R2 (c6 x0) a ((lk x1.d8 c).getD 0) d x2 x3 H (fun v y z =>
 K (c6 v) y z)) ∧
 (¬ (x1.d5 = 1) →
 (x1.d5 = 2 →
 B6 x2 x3 11 H (fun b e =>
 ∃ f : List (ByteArray × Int), MapH e (fun s : ByteArray => Value.string s) (fun n : Int => Value.int .i64 n) x0.farrays f ∧
 J8 (c6 x0) a x1.g5 x2 0 e (fun aa ab ac ad ae af =>
 o5 (c6 ad) ae (c8.mk ac b.fTo b.d5 b.a1Y ((lk x1.d8 f).getD 0) b.fOp aa ab) af (fun ag ah ai =>
 K (c6 ag) ah ai)))) ∧
 (¬ (x1.d5 = 2) →
 (x1.d5 = 3 →
 E7 (c6 x0) a x1.D8 x3 H (fun g aj ak al =>
 E7 (c6 aj) ak x1.D9 x3 al (fun i am an j =>
 (0 : Int) ≤ 0 ∧ (0 : Int) < x1.o3.n ∧ ∃ k : m2, EltH j x1.o3 0 4 (f9 k) ∧
 o9 (c6 am) an k x2 g i j (fun ao ap aq =>
 C4 (c6 ao) ap x1.D8 g x3 aq (fun ar au av =>
 C4 (c6 ar) au x1.D9 i x3 av (fun aw ax ay =>
 K (c6 aw) ax ay)))))) ∧
 (¬ (x1.d5 = 3) →
 (x1.d5 = 4 →
 E7 (c6 x0) a x1.D8 x2 H (fun l az ba m =>
 (0 : Int) ≤ 0 ∧ (0 : Int) < x1.o3.n ∧ ∃ o : m2, EltH m x1.o3 0 4 (f9 o) ∧
 o9 (c6 az) ba o x2 l x3 m (fun bb bc bd =>
 C4 (c6 bb) bc x1.D8 l x2 bd (fun be bf bg =>
 K (c6 be) bf bg)))) ∧
 (¬ (x1.d5 = 4) →
 (x1.d5 = 5 →
 r8 (c6 x0) a H (fun p bh bi bj =>
 r8 (c6 bh) bi bj (fun q bk bl r =>
 (0 : Int) ≤ 0 ∧ (0 : Int) < x1.o3.n ∧ ∃ t : m2, EltH r x1.o3 0 4 (f9 t) ∧
 o9 (c6 bk) bl t x2 p q r (fun bm bn bo =>
 B6 p x3 13 bo (fun bp bq =>
 o5 (c6 bm) bn bp bq (fun br bs bt =>
 B6 q x3 14 bt (fun bu bv =>
 o5 (c6 br) bs bu bv (fun bw bz ca =>
 K (c6 bw) bz ca)))))))) ∧
 (¬ (x1.d5 = 5) →
 (x1.d5 = 6 →
 (0 : Int) ≤ 0 ∧ (0 : Int) < x1.o3.n ∧ ∃ u : m2, EltH H x1.o3 0 4 (f9 u) ∧
 o9 (c6 x0) a u x2 x3 x0.fc.C2 H (fun cb cc cd =>
 K (c6 cb) cc cd)) ∧
 (¬ (x1.d5 = 6) →
 B6 x2 x3 1 H (fun ce cf =>
 o5 (c6 x0) a ce cf (fun cg ch ci =>
 K (c6 cg) ch ci))))))))
theorem a3U (x0 : d2) (v : (List c8)) (x1 : j9) (x2 : Int) (x3 : Int) {H : Hp} {K : d2 → (List c8) → Hp → Prop} (h : U7 x0 v x1 x2 x3 H K) : U3 x0 v x1 x2 x3 H K := by
 intro g0 c d e
 refine Ct.of fun w0 w ps0 H0 R E I hR => b6z ?_
 unfold U7 at h
 unfold F19
 refine C1 I (cs := (j7 x1)) rfl fun ey ez b fa => ?_
 refine c5 a1t ?_
 refine d3 (l1 Tryd.isAgg3 b rfl) ?_
 refine c5 (f8 _ _ _ _ _ _) ?_
 refine d7 h (fun _ h => ?_) (fun _ h => ?_)
 ·refine N7 b fun fb g => ?_
  refine f7 (m5 _) ?_
  refine f7 a5B ?_
  refine f7 Y9 ?_
  refine f7 a2u ?_
  refine o8 (l1 Tryd.isAgg57 (g.bring 1) rfl) ?_
  refine o8 (l1 Tryd.isAgg9 g rfl) ?_
  obtain ⟨fc, ag, h⟩ := h
  refine a5y (keyS Tryd.underlying9) Tryd.underlying57 (z := 0) Tryd.zeroValue3 g ag x1.d8 ?_
  refine o8 (l1 Tryd.isAgg23 g rfl) ?_
  obtain ⟨ah, ai, aj, l, h⟩ := h
  obtain ⟨fd, fe, ak, l⟩ := l
  refine f7 (Z4 ak _ _ _ _ ah ai) ?_
  refine o8 (ldA (vs := (f6 aj)) Tryd.isAgg25 Tryd.sizeOf25 rfl (g.atH l)) ?_
  refine d9 Tryd.call28 (h g0 c d e) ((g.bring 2).bring 2) ?_
  rintro _ al _ ff am _ _ ⟨an, ao, ap, aq, rfl, rfl, ar, h⟩
  exact hR _ al _ _ (((am.bring 2).drop.bring 1).bring 1) ⟨(c6 an), ao, ap, aq, rfl, rfl, ar, h⟩
 ·refine c5 (f8 _ _ _ _ _ _) ?_
  refine d7 h (fun _ h => ?_) (fun _ h => ?_)
  ·refine d9 Tryd.call29 h b ?_
   rintro _ _ _ fg au _ _ ⟨a, rfl, rfl, h⟩
   refine q9 au Tryd.zeroValue46 (cs := [(vi 0), (vi 0), (vi 0), (vi 0), (vi 0), (vi 0), (vi 0), (vi 0), (vi 0), (vi 0)]) rfl fun fh fi av fj => ?_
   refine s9 av Tryd.sizeOf46 (vs := (g8 a)) fun fk aw fl => ?_
   refine N7 aw fun fm j => ?_
   refine f7 (m5 _) ?_
   refine f7 a5C ?_
   refine f7 Y9 ?_
   refine o8 (l1 Tryd.isAgg57 (j.bring 2) rfl) ?_
   refine o8 (l1 Tryd.isAgg9 (j.bring 1) rfl) ?_
   obtain ⟨m, ax, h⟩ := h
   refine a5y (keyS Tryd.underlying9) Tryd.underlying57 (z := 0) Tryd.zeroValue3 j ax x1.d8 ?_
   refine f7 a7V ?_
   refine N8 j Tryd.sizeOf3 fun fn y fo => ?_
   refine c5 a2u ?_
   refine d3 (l1 Tryd.isAgg23 (y.bring 1) rfl) ?_
   refine d9 Tryd.call30 (h g0 c d e) ((y.bring 3).bring 3) ?_
   rintro _ _ _ fp ay _ _ ⟨f, i, aa, fq, fs, az, ba, rfl, rfl, bb, h⟩
   refine c5 (g9 _ _ _ rfl) ?_
   refine c5 (g9 _ _ _ rfl) ?_
   refine c5 (g9 _ _ (vi aa) rfl) ?_
   refine c5 a2v ?_
   refine V4 (ay.bring 2) Tryd.sizeOf44 (vs := (m4 f)) (cs' := [(vi a.Q5), (vi a.fTo), (vi a.d5), (vi a.a1Y), (vi ((lk x1.d8 m).getD 0)), (vi a.fOp), (vi f.G1), (vi f.y8), (vi a.fB.G1), (vi a.fB.y8)]) rfl rfl (nb rfl) rfl rfl fun ft bc fu => ?_
   refine c5 a5D ?_
   refine V4 bc Tryd.sizeOf44 (vs := (m4 i)) (cs' := [(vi a.Q5), (vi a.fTo), (vi a.d5), (vi a.a1Y), (vi ((lk x1.d8 m).getD 0)), (vi a.fOp), (vi f.G1), (vi f.y8), (vi i.G1), (vi i.y8)]) rfl rfl (nb rfl) rfl rfl fun fv bd fw => ?_
   refine c5 a5A ?_
   refine N8 bd Tryd.sizeOf3 fun fx ab fy => ?_
   refine d3 (ldA Tryd.isAgg46 Tryd.sizeOf46 rfl (ab.at1 (o := 0) (vs := [(vi aa), (vi a.fTo), (vi a.d5), (vi a.a1Y), (vi ((lk x1.d8 m).getD 0)), (vi a.fOp), (vi f.G1), (vi f.y8), (vi i.G1), (vi i.y8)]) (nb rfl) rfl)) ?_
   refine d9 Tryd.call31 (h g0 az ba bb) ((ab.bring 2).bring 2) ?_
   rintro _ be _ fz bf _ _ ⟨bg, bh, bi, bj, rfl, rfl, bk, h⟩
   exact hR _ be _ _ ((((bf.bring 2).drop.bring 2).drop.bring 1).bring 1) ⟨(c6 bg), bh, bi, bj, rfl, rfl, bk, h⟩
  ·refine c5 (f8 _ _ _ _ _ _) ?_
   refine d7 h (fun _ h => ?_) (fun _ h => ?_)
   ·refine c5 Y7 ?_
    refine d3 (l1 Tryd.isAgg37 b rfl) ?_
    refine d9 Tryd.call32 (h g0 c d e) ((b.bring 2).bring 2) ?_
    rintro _ _ _ ga ac _ _ ⟨gb, gc, gd, bl, bm, rfl, rfl, bn, h⟩
    refine c5 a0r ?_
    refine d3 (l1 Tryd.isAgg37 (ac.bring 2) rfl) ?_
    refine d9 Tryd.call32 (h g0 bl bm bn) ((ac.bring 1).bring 1) ?_
    rintro _ _ _ ge n _ _ ⟨gf, gg, gh, bo, bp, rfl, rfl, bq, h⟩
    refine c5 a0s ?_
    refine d3 (l1 Tryd.isAgg36 (n.bring 2) rfl) ?_
    obtain ⟨br, bs, bt, p, h⟩ := h
    obtain ⟨gi, gj, bu, p⟩ := p
    refine c5 (S5 bu _ _ _ _ br bs) ?_
    refine d3 (ldA (vs := (f9 bt)) Tryd.isAgg89 Tryd.sizeOf89 rfl (n.atH p)) ?_
    refine d9 Tryd.call33 (h g0 bo bp bq) ((n.bring 1).bring 1) ?_
    rintro _ _ _ gk ad _ _ ⟨gl, gm, bv, bw, rfl, rfl, bz, h⟩
    refine c5 Y7 ?_
    refine d3 (l1 Tryd.isAgg37 (ad.bring 2) rfl) ?_
    refine d9 Tryd.call13 (h g0 bv bw bz) ((ad.bring 1).bring 1) ?_
    rintro _ _ _ gn ae _ _ ⟨go, gp, ca, cb, rfl, rfl, cc, h⟩
    refine c5 a0r ?_
    refine d3 (l1 Tryd.isAgg37 (ae.bring 2) rfl) ?_
    refine d9 Tryd.call13 (h g0 ca cb cc) ((ae.bring 1).bring 1) ?_
    rintro _ cd _ gq ce _ _ ⟨cf, cg, ch, ci, rfl, rfl, cj, h⟩
    exact hR _ cd _ _ (((ce.bring 2).drop.bring 1).bring 1) ⟨(c6 cf), cg, ch, ci, rfl, rfl, cj, h⟩
   ·refine c5 (f8 _ _ _ _ _ _) ?_
    refine d7 h (fun _ h => ?_) (fun _ h => ?_)
    ·refine c5 Y7 ?_
     refine d3 (l1 Tryd.isAgg37 b rfl) ?_
     refine d9 Tryd.call32 (h g0 c d e) ((b.bring 2).bring 2) ?_
     rintro _ _ _ gr q _ _ ⟨gs, gt, gu, ck, cl, rfl, rfl, cm, h⟩
     refine c5 a0s ?_
     refine d3 (l1 Tryd.isAgg36 (q.bring 2) rfl) ?_
     obtain ⟨cn, co, cp, r, h⟩ := h
     obtain ⟨gv, gw, cq, r⟩ := r
     refine c5 (S5 cq _ _ _ _ cn co) ?_
     refine d3 (ldA (vs := (f9 cp)) Tryd.isAgg89 Tryd.sizeOf89 rfl (q.atH r)) ?_
     refine d9 Tryd.call33 (h g0 ck cl cm) ((q.bring 1).bring 1) ?_
     rintro _ _ _ gx af _ _ ⟨gy, gz, cr, ct, rfl, rfl, cu, h⟩
     refine c5 Y7 ?_
     refine d3 (l1 Tryd.isAgg37 (af.bring 2) rfl) ?_
     refine d9 Tryd.call13 (h g0 cr ct cu) ((af.bring 1).bring 1) ?_
     rintro _ cv _ ha cw _ _ ⟨cx, cy, cz, da, rfl, rfl, db, h⟩
     exact hR _ cv _ _ (((cw.bring 2).drop.bring 1).bring 1) ⟨(c6 cx), cy, cz, da, rfl, rfl, db, h⟩
    ·refine c5 (f8 _ _ _ _ _ _) ?_
     refine d7 h (fun _ h => ?_) (fun _ h => ?_)
     ·refine d9 Tryd.call12 (h g0 c d e) ((b.bring 2).bring 2) ?_
      rintro _ _ _ hb dc _ _ ⟨hc, hd, he, dd, de, rfl, rfl, df, h⟩
      refine d9 Tryd.call12 (h g0 dd de df) ((dc.bring 1).bring 1) ?_
      rintro _ _ _ hf s _ _ ⟨hg, hh, hi, dg, dh, rfl, rfl, di, h⟩
      refine c5 a0s ?_
      refine d3 (l1 Tryd.isAgg36 (s.bring 2) rfl) ?_
      obtain ⟨dj, dk, dl, t, h⟩ := h
      obtain ⟨hj, hk, dm, t⟩ := t
      refine c5 (S5 dm _ _ _ _ dj dk) ?_
      refine d3 (ldA (vs := (f9 dl)) Tryd.isAgg89 Tryd.sizeOf89 rfl (s.atH t)) ?_
      refine d9 Tryd.call33 (h g0 dg dh di) ((s.bring 1).bring 1) ?_
      rintro _ _ _ hl dn _ _ ⟨hm, hn, dp, dq, rfl, rfl, dr, h⟩
      refine d9 Tryd.call29 h dn ?_
      rintro _ _ _ ho ds _ _ ⟨hp, rfl, rfl, h⟩
      refine d9 Tryd.call31 (h g0 dp dq dr) ((ds.bring 1).bring 1) ?_
      rintro _ _ _ hq dt _ _ ⟨hr, hs, du, dv, rfl, rfl, dw, h⟩
      refine d9 Tryd.call29 h dt ?_
      rintro _ _ _ ht dx _ _ ⟨hu, rfl, rfl, h⟩
      refine d9 Tryd.call31 (h g0 du dv dw) ((dx.bring 1).bring 1) ?_
      rintro _ dy _ hv dz _ _ ⟨ea, eb, ec, ed, rfl, rfl, ee, h⟩
      exact hR _ dy _ _ (((dz.bring 2).drop.bring 1).bring 1) ⟨(c6 ea), eb, ec, ed, rfl, rfl, ee, h⟩
     ·refine c5 (f8 _ _ _ _ _ _) ?_
      refine d7 h (fun _ h => ?_) (fun _ h => ?_)
      ·refine N7 b fun hw k => ?_
       refine f7 a0s ?_
       refine f7 (m5 _) ?_
       refine f7 E0 ?_
       refine f7 a3M ?_
       refine o8 (l1 Tryd.isAgg36 k rfl) ?_
       obtain ⟨ef, eg, eh, u, h⟩ := h
       obtain ⟨hx, hy, ei, u⟩ := u
       refine f7 (S5 ei _ _ _ _ ef eg) ?_
       refine o8 (ldA (vs := (f9 eh)) Tryd.isAgg89 Tryd.sizeOf89 rfl (k.atH u)) ?_
       refine o8 (l1 Tryd.isAgg3 (k.bring 1) rfl) ?_
       refine d9 Tryd.call33 (h g0 c d e) ((k.bring 2).bring 2) ?_
       rintro _ ej _ hz ek _ _ ⟨el, em, en, eo, rfl, rfl, ep, h⟩
       exact hR _ ej _ _ (((ek.bring 2).drop.bring 1).bring 1) ⟨(c6 el), em, en, eo, rfl, rfl, ep, h⟩
      ·refine d9 Tryd.call29 h b ?_
       rintro _ _ _ ia eq _ _ ⟨ib, rfl, rfl, h⟩
       refine d9 Tryd.call31 (h g0 c d e) ((eq.bring 2).bring 2) ?_
       rintro _ er _ ic es _ _ ⟨et, eu, ev, ew, rfl, rfl, ex, h⟩
       exact hR _ er _ _ (((es.bring 2).drop.bring 1).bring 1) ⟨(c6 et), eu, ev, ew, rfl, rfl, ex, h⟩
def a2k (x0 : Int) (x1 : Int) (x2 : Int) (H : Hp) (K : Bool → Hp → Prop) : Prop :=
 K ((decide (x0 ≤ x2)) && (decide (x2 ≤ x1))) H
theorem a5j (x0 : Int) (x1 : Int) (x2 : Int) {H : Hp} {K : Bool → Hp → Prop} (h : a2k x0 x1 x2 H K) : B0 x0 x1 x2 H K := by
 intro g2
 refine Ct.of fun w0 w ps0 H0 R E I hR => b7s ?_
 unfold a2k at h
 unfold F74
 refine d3 (l1 Tryd.isAgg21 I rfl) ?_
 refine c5 (a7O _ _ _ _ _ _) ?_
 refine d3 (Ld.g fun hb => by have a := hb; exact (l1 Tryd.isAgg21 I rfl)) ?_
 simp only [Y3]
 refine c5 (Pu.g fun hb => by have a := hb; simp only [r7 a]; with_reducible exact (a7O _ _ _ _ _ _)) ?_
 refine c5 (L2 _ _) ?_
 exact hR _ H _ _ I ⟨((decide (x0 ≤ x2)) && (decide (x2 ≤ x1))), rfl, rfl, h⟩
def a1L (x0 : ByteArray) (H : Hp) (K : Bool → Hp → Prop) : Prop :=
 M0 x0 H (fun a b =>
 K (decide (32 < a)) b)
theorem a7m (x0 : ByteArray) {H : Hp} {K : Bool → Hp → Prop} (h : a1L x0 H K) : a1H x0 H K := by
 refine Ct.of fun w0 w ps0 H0 R E I hR => b7m ?_
 unfold a1L at h
 unfold F67
 refine d9 Tryd.call73 h I ?_
 rintro _ a _ d b _ _ ⟨c, rfl, rfl, h⟩
 refine c5 (a0K _ _ _ _ _ _) ?_
 exact hR _ a _ _ b ⟨(decide (32 < c)), rfl, rfl, h⟩
def G4 (H : Hp) (K : Int → Hp → Prop) : Prop :=
 K (-1) H
def N3 (b8v : (List ByteArray)) (b0A : ByteArray) (P6 : Int) (U8 : Int) (H : Hp) (n2 : Int → Hp → Prop) (K : Int → Hp → Prop) : Prop :=
 (U8 < P6 →
 (0 : Int) ≤ U8 ∧ ∃ a : ByteArray, (b8v)[(U8 : Int).toNat]? = some a ∧
 (b0A = a →
 K U8 H) ∧
 (¬ (b0A = a) →
 n2 (IntKind.wrap .i64 (U8 + 1)) H)) ∧
 (¬ (U8 < P6) →
 G4 H K)
def P7 (x0 : (List ByteArray)) (x1 : ByteArray) (H : Hp) (K : Int → Hp → Prop) : Prop :=
 TL (0 : Int) H fun (s : Int) H n2 => N3 x0 x1 (x0.length : Int) s H n2 K
theorem a2S (x0 : (List ByteArray)) (x1 : ByteArray) {H : Hp} {K : Int → Hp → Prop} (h : P7 x0 x1 H K) : P5 x0 x1 H K := by
 intro sx0 Fx0 hx0
 refine Ct.of fun w0 w ps0 H0 R E I hR => b7q ?_
 unfold P7 at h
 unfold F71
 have hj1 : ∀ (H : Hp) (w : World) (_ : Inv w0 ps0 H0 H [Fx0] w) (_ : G4 H K), b0s w R E := by
  intro H w I h
  unfold b0s
  intro _
  unfold G4 at h
  exact hR _ H _ _ I ⟨(-1), rfl, rfl, h⟩
 refine r5 fun j1 hx1 => ?_
 refine c5 (a2q Tryd.underlying26 hx0) ?_
 refine a1X (σ := Int) (fun U8 => [(vi U8)]) (fun U8 => [Fx0]) h rfl I ?_
 rintro U8 H f w next2 n2 b I h hn2
 simp only [List.map_cons, List.map_nil, List.cons.injEq, and_true] at b
 have e8 := b
 simp only [e8]
 unfold b3q
 unfold N3 at h
 refine c5 (D1 _ _ _ _ _ _) ?_
 refine d7 h (fun _ h => ?_) (fun _ h => ?_)
 ·obtain ⟨c, e, a, h⟩ := h
  obtain ⟨g, i, d, j⟩ := hx0.addr a
  refine c5 (a9O d _ _ _ _ c (hx0.lt c a)) ?_
  refine d3 (ld1 (v := (Value.string e)) Tryd.isAgg9 (hx0.atW I d a)) ?_
  refine c5 (U0 _ _ _ _ _) ?_
  refine d7 h (fun _ h => ?_) (fun _ h => ?_)
  ·exact hR _ H _ _ I ⟨U8, rfl, rfl, h⟩
  ·refine c5 (s8 _ _ _ _ _ _) ?_
   exact hn2 (IntKind.wrap .i64 (U8 + 1)) _ _ h I
 ·exact hx1 _ _ (hj1 H _ I h)
def L6 (a8D : Int) (a8E : ByteArray) (a : (List d4)) (b : m1) (H : Hp) (K : ByteArray → Int → Hp → Prop) : Prop :=
 K a8E a8D H
def Z6 (a1K : (Option Nat)) (a8a : (List d4)) (a8b : Int) (c : m1) (P6 : Int) (W2 : ByteArray) (K5 : Int) (H : Hp) (n2 : (Int × ByteArray × Int) → Hp → Prop) (K : ByteArray → Int → Hp → Prop) : Prop :=
 (K5 < a8b →
 (0 : Int) ≤ K5 ∧ ∃ a : d4, (a8a)[(K5 : Int).toNat]? = some a ∧
 ∃ b : List (ByteArray × Int), MapH H (fun s : ByteArray => Value.string s) (fun n : Int => Value.int .i64 n) a1K b ∧
 (((lk a.fname b).getD 0) = a.fas →
 n2 (P6, W2, (IntKind.wrap .i64 (K5 + 1))) H) ∧
 (¬ (((lk a.fname b).getD 0) = a.fas) →
 (((lk a.fname b).getD 0) = 0 →
 L6 63 a.fname a8a c H K) ∧
 (¬ (((lk a.fname b).getD 0) = 0) →
 L6 64 a.fname a8a c H K))) ∧
 (¬ (K5 < a8b) →
 L6 P6 W2 a8a c H K)
def a0U (x0 : m1) (H : Hp) (K : ByteArray → Int → Hp → Prop) : Prop :=
 a0R x0 H (fun b c =>
 (¬ (b = 0) →
 K ⟨#[]⟩ b c) ∧
 (b = 0 →
 a1T x0.a2r c (fun f g a d =>
 (¬ (a = 0) →
 K g a d) ∧
 (a = 0 →
 G2 (f0.mk (Sl.mk none 0 0)) [] x0.a1W d (fun j e i =>
 TL ((a, ⟨#[]⟩, 0) : Int × ByteArray × Int) i fun (s : Int × ByteArray × Int) H n2 => Z6 f e (e.length : Int) x0 s.1 s.2.1 s.2.2 H n2 K)))))
theorem a6p (x0 : m1) {H : Hp} {K : ByteArray → Int → Hp → Prop} (h : a0U x0 H K) : a2J x0 H K := by
 refine Ct.of fun w0 w ps0 H0 R E I hR => b6A ?_
 unfold a0U at h
 unfold F23
 refine C1 I (cs := (m0 x0)) rfl fun j ad k ae => ?_
 refine d3 (lW Tryd.isAgg41 Tryd.sizeOf41 rfl k) ?_
 refine d9 Tryd.call41 h k ?_
 rintro _ u _ af d _ _ ⟨v, rfl, rfl, h⟩
 refine c5 (a0Z _ _ _ _ _ _) ?_
 refine a5t h (fun _ h => ?_) (fun _ h => ?_)
 ·exact hR _ u _ _ d.drop ⟨⟨#[]⟩, v, rfl, rfl, h⟩
 ·refine c5 a5F ?_
  refine d3 (l1 Tryd.isAgg27 d rfl) ?_
  refine d9 Tryd.call42 h d ?_
  rintro _ y _ ag l _ _ ⟨ah, m, n, rfl, rfl, h⟩
  refine c5 (g9 _ _ _ rfl) ?_
  refine c5 (g9 _ _ (Value.string m) rfl) ?_
  refine c5 (g9 _ _ (vi n) rfl) ?_
  refine c5 (a0Z _ _ _ _ _ _) ?_
  refine a5t h (fun _ h => ?_) (fun _ h => ?_)
  ·exact hR _ y _ _ l.drop ⟨m, n, rfl, rfl, h⟩
  ·refine c5 (b1K ) ?_
   refine C1 l (cs := [(Value.slice none 0 0)]) rfl fun f ai o aj => ?_
   refine c5 a2t ?_
   refine d3 (l1 Tryd.isAgg37 (o.bring 1) rfl) ?_
   refine d9 Tryd.call43 (h f (Sl.mk none 0 0) ([]) (RowL.nil (e := 106) a0L a0M)) (o.nil.bring 1) ?_
   rintro _ _ _ ak p _ _ ⟨al, aa, q, r, rfl, rfl, c, h⟩
   have hj1 : ∀ (a8D : Int) (a8E : ByteArray) (H : Hp) (w : World) (_ : Inv w0 ps0 H0 H [bx f 103 [(vs q)], bx j 41 (m0 x0), r] w) (_ : L6 a8D a8E aa x0 H K), a9T (vi a8D) (Value.string a8E) w R E := by
    intro a8D a8E H w I h
    unfold a9T
    intro _
    unfold L6 at h
    exact hR _ H _ _ I.drop.drop.drop ⟨a8E, a8D, rfl, rfl, h⟩
   refine r5 fun j1 hx1 => ?_
   refine c5 (m5 _) ?_
   refine c5 Q6 ?_
   refine d3 (l1 Tryd.isAgg101 p rfl) ?_
   refine c5 (a2q Tryd.underlying101 c) ?_
   refine a1X (σ := Int × ByteArray × Int) (fun (P6, W2, K5) => [(vi P6), (Value.string W2), (vi K5)]) (fun (P6, W2, K5) => [bx f 103 [(vs q)], bx j 41 (m0 x0), r]) h rfl (((p.bring 1).bring 2).bring 2) ?_
   rintro ⟨P6, W2, K5⟩ H am w next2 n2 g I h hn2
   dsimp only at g I h
   simp only [List.map_cons, List.map_nil, List.cons.injEq, and_true] at g
   obtain ⟨e7, e9, e39⟩ := g
   simp only [e7, e9, e39]
   unfold b2W
   unfold Z6 at h
   refine c5 (D1 _ _ _ _ _ _) ?_
   refine d7 h (fun _ h => ?_) (fun _ h => ?_)
   ·obtain ⟨s, b, i, h⟩ := h
    obtain ⟨an, ao, t, ap⟩ := c.addr i
    refine c5 (b2Q t _ _ _ _ s (c.lt s i)) ?_
    refine d3 (ldA (vs := (o4 b)) Tryd.isAgg106 Tryd.sizeOf106 rfl (c.atW (I.bring 2) t i)) ?_
    refine q9 I Tryd.zeroValue106 (cs := [(Value.string ⟨#[]⟩), (vi 0)]) rfl fun aq ar ab au => ?_
    refine s9 ab Tryd.sizeOf106 (vs := (o4 b)) fun av a aw => ?_
    refine c5 a4O ?_
    refine d3 (l1 Tryd.isAgg9 a rfl) ?_
    obtain ⟨ax, ac, h⟩ := h
    refine b4b (keyS Tryd.underlying9) Tryd.underlying57 (z := 0) Tryd.zeroValue3 a ac b.fname ?_
    refine c5 b1c ?_
    refine d3 (l1 Tryd.isAgg3 a rfl) ?_
    refine c5 (f8 _ _ _ _ _ _) ?_
    refine d7 h (fun _ h => ?_) (fun _ h => ?_)
    ·refine c5 (s8 _ _ _ _ _ _) ?_
     exact hn2 (P6, W2, (IntKind.wrap .i64 (K5 + 1))) _ _ h (((a.drop.bring 2).bring 2).bring 2)
    ·refine c5 (f8 _ _ _ _ _ _) ?_
     refine d7 h (fun _ h => ?_) (fun _ h => ?_)
     ·refine c5 a4O ?_
      refine d3 (l1 Tryd.isAgg9 a rfl) ?_
      exact hx1 _ _ (hj1 63 b.fname H _ (((a.drop.bring 2).bring 2).bring 2) h)
     ·refine c5 a4O ?_
      refine d3 (l1 Tryd.isAgg9 a rfl) ?_
      exact hx1 _ _ (hj1 64 b.fname H _ (((a.drop.bring 2).bring 2).bring 2) h)
   ·exact hx1 _ _ (hj1 P6 W2 H _ (((I.bring 2).bring 2).bring 2) h)
def X6 (x0 : K4) (H : Hp) (K : Bool → Hp → Prop) : Prop :=
 K ((decide (0 ≤ x0.M8.X0)) && (decide (x0.M8.X0 ≤ 2147483647))) H
theorem a4C (x0 : K4) {H : Hp} {K : Bool → Hp → Prop} (h : X6 x0 H K) : a1G x0 H K := by
 refine Ct.of fun w0 w ps0 H0 R E I hR => b7t ?_
 unfold X6 at h
 unfold F91
 refine C1 I (cs := (f3 x0.M8)) rfl fun c d b e => ?_
 refine c5 a4T ?_
 refine c5 a3P ?_
 refine d3 (l1 Tryd.isAgg3 b rfl) ?_
 refine c5 (a6v _ _ _ _ _ _) ?_
 refine c5 (Pu.g fun hb => by have a := hb; with_reducible exact a4T) ?_
 refine c5 (Pu.g fun hb => by have a := hb; simp only [r7 a]; with_reducible exact a3P) ?_
 refine d3 (Ld.g fun hb => by have a := hb; simp only [r7 a]; exact (l1 Tryd.isAgg3 b rfl)) ?_
 refine c5 (Pu.g fun hb => by have a := hb; simp only [r7 a]; with_reducible exact (a7O _ _ _ _ _ _)) ?_
 refine c5 (L2 _ _) ?_
 exact hR _ H _ _ b.drop ⟨((decide (0 ≤ x0.M8.X0)) && (decide (x0.M8.X0 ≤ 2147483647))), rfl, rfl, h⟩
def C5 (a0S : Bool) (b4S : Int) (a6Z : Bool) (a : m7) (b : F1) (H : Hp) (K : Bool → Hp → Prop) : Prop :=
 (a6Z = true →
 K (a0S && (decide (a.fexprs = 0 ∧ a.fconds = 1))) H) ∧
 (a6Z = false →
 (b4S = 7 →
 K (a0S && (decide (a.fexprs = 0 ∧ a.fconds = 0))) H) ∧
 (¬ (b4S = 7) →
 K false H))
def X7 (x0 : F1) (H : Hp) (K : Bool → Hp → Prop) : Prop :=
 (x0.d6.d5 = 1 →
 K ((!(decide (0 < (IntKind.wrap .i64 ((x0.d6.D8.n : Int) + (x0.d6.D9.n : Int)))))) && (decide ((x0.d6.g5.n : Int) = 1 ∧ (x0.d6.o3.n : Int) = 0))) H) ∧
 (¬ (x0.d6.d5 = 1) →
 (x0.d6.d5 = 2 →
 K ((!(decide (0 < (IntKind.wrap .i64 ((x0.d6.D8.n : Int) + (x0.d6.D9.n : Int)))))) && (decide ((x0.d6.g5.n : Int) = 2 ∧ (x0.d6.o3.n : Int) = 0))) H) ∧
 (¬ (x0.d6.d5 = 2) →
 (x0.d6.d5 = 3 →
 K ((decide (x0.d6.d8 = ⟨#[]⟩)) && (decide ((x0.d6.g5.n : Int) = 0 ∧ (x0.d6.o3.n : Int) = 1))) H) ∧
 (¬ (x0.d6.d5 = 3) →
 (x0.d6.d5 = 4 →
 K (((decide (x0.d6.d8 = ⟨#[]⟩)) && (decide ((x0.d6.D9.n : Int) = 0))) && (decide ((x0.d6.g5.n : Int) = 0 ∧ (x0.d6.o3.n : Int) = 1))) H) ∧
 (¬ (x0.d6.d5 = 4) →
 (x0.d6.d5 = 5 →
 C5 ((decide (x0.d6.d8 = ⟨#[]⟩)) && (!(decide (0 < (IntKind.wrap .i64 ((x0.d6.D8.n : Int) + (x0.d6.D9.n : Int))))))) x0.d6.d5 (decide (x0.d6.d5 = 5)) (m7.mk (x0.d6.g5.n : Int) (x0.d6.o3.n : Int)) x0 H K) ∧
 (¬ (x0.d6.d5 = 5) →
 C5 ((decide (x0.d6.d8 = ⟨#[]⟩)) && (!(decide (0 < (IntKind.wrap .i64 ((x0.d6.D8.n : Int) + (x0.d6.D9.n : Int))))))) x0.d6.d5 (decide (x0.d6.d5 = 6)) (m7.mk (x0.d6.g5.n : Int) (x0.d6.o3.n : Int)) x0 H K)))))
theorem a4D (x0 : F1) {H : Hp} {K : Bool → Hp → Prop} (h : X7 x0 H K) : X3 x0 H K := by
 refine Ct.of fun w0 w ps0 H0 R E I hR => b7v ?_
 unfold X7 at h
 unfold F93
 refine C1 I (cs := (j7 x0.d6)) rfl fun e i c j => ?_
 refine c5 C3 ?_
 refine c5 Y7 ?_
 refine d3 (l1 Tryd.isAgg37 c rfl) ?_
 refine c5 (R0 _ _ _) ?_
 refine c5 C3 ?_
 refine c5 a0r ?_
 refine d3 (l1 Tryd.isAgg37 c rfl) ?_
 refine c5 (R0 _ _ _) ?_
 refine c5 (s8 _ _ _ _ _ _) ?_
 refine c5 (a0K _ _ _ _ _ _) ?_
 refine c5 C3 ?_
 refine c5 a2u ?_
 refine d3 (l1 Tryd.isAgg23 c rfl) ?_
 refine c5 (a0o _ _ _) ?_
 refine c5 C3 ?_
 refine c5 a0s ?_
 refine d3 (l1 Tryd.isAgg36 c rfl) ?_
 refine c5 (a3j _ _ _) ?_
 refine c5 (V6 _ _) ?_
 refine q9 c Tryd.zeroValue175 (cs := [(vi 0), (vi 0)]) rfl fun d k f l => ?_
 refine s9 f Tryd.sizeOf175 (vs := [(vi (x0.d6.g5.n : Int)), (vi (x0.d6.o3.n : Int))]) fun m b p => ?_
 refine c5 C3 ?_
 refine c5 Y9 ?_
 refine d3 (l1 Tryd.isAgg9 (b.bring 1) rfl) ?_
 refine c5 (U0 _ _ _ _ _) ?_
 simp only [Y3]
 refine c5 (Pu.g fun hb => by have a := hb; simp only [r7 a]; with_reducible exact (W0 _)) ?_
 refine c5 (L2 _ _) ?_
 refine c5 C3 ?_
 refine c5 a1t ?_
 refine d3 (l1 Tryd.isAgg3 (b.bring 1) rfl) ?_
 refine c5 (f8 _ _ _ _ _ _) ?_
 refine d7 h (fun _ h => ?_) (fun _ h => ?_)
 ·refine c5 (W0 _) ?_
  refine d3 (Ld.g fun hb => by have a := hb; exact (ldA Tryd.isAgg175 Tryd.sizeOf175 rfl (b.at1 (o := 0) (vs := [(vi (x0.d6.g5.n : Int)), (vi (x0.d6.o3.n : Int))]) (nb rfl) rfl))) ?_
  refine c5 (Pu.g fun hb => by have a := hb; with_reducible exact (V6 _ _)) ?_
  refine c5 (Pu.g fun hb => by have a := hb; simp only [r7 a]; with_reducible exact (a2i _ _ _ _ _ _)) ?_
  refine c5 (L2 _ _) ?_
  exact hR _ H _ _ b.drop.drop ⟨((!(decide (0 < (IntKind.wrap .i64 ((x0.d6.D8.n : Int) + (x0.d6.D9.n : Int)))))) && (decide ((x0.d6.g5.n : Int) = 1 ∧ (x0.d6.o3.n : Int) = 0))), rfl, rfl, h⟩
 ·refine c5 (f8 _ _ _ _ _ _) ?_
  refine d7 h (fun _ h => ?_) (fun _ h => ?_)
  ·refine c5 (W0 _) ?_
   refine d3 (Ld.g fun hb => by have a := hb; exact (ldA Tryd.isAgg175 Tryd.sizeOf175 rfl (b.at1 (o := 0) (vs := [(vi (x0.d6.g5.n : Int)), (vi (x0.d6.o3.n : Int))]) (nb rfl) rfl))) ?_
   refine c5 (Pu.g fun hb => by have a := hb; with_reducible exact (V6 _ _)) ?_
   refine c5 (Pu.g fun hb => by have a := hb; simp only [r7 a]; with_reducible exact (a2i _ _ _ _ _ _)) ?_
   refine c5 (L2 _ _) ?_
   exact hR _ H _ _ b.drop.drop ⟨((!(decide (0 < (IntKind.wrap .i64 ((x0.d6.D8.n : Int) + (x0.d6.D9.n : Int)))))) && (decide ((x0.d6.g5.n : Int) = 2 ∧ (x0.d6.o3.n : Int) = 0))), rfl, rfl, h⟩
  ·refine c5 (f8 _ _ _ _ _ _) ?_
   refine d7 h (fun _ h => ?_) (fun _ h => ?_)
   ·refine c5 C3 ?_
    refine c5 Y9 ?_
    refine d3 (l1 Tryd.isAgg9 (b.bring 1) rfl) ?_
    refine c5 (U0 _ _ _ _ _) ?_
    refine d3 (Ld.g fun hb => by have a := hb; exact (ldA Tryd.isAgg175 Tryd.sizeOf175 rfl (b.at1 (o := 0) (vs := [(vi (x0.d6.g5.n : Int)), (vi (x0.d6.o3.n : Int))]) (nb rfl) rfl))) ?_
    refine c5 (Pu.g fun hb => by have a := hb; with_reducible exact (V6 _ _)) ?_
    refine c5 (Pu.g fun hb => by have a := hb; simp only [r7 a]; with_reducible exact (a2i _ _ _ _ _ _)) ?_
    refine c5 (L2 _ _) ?_
    exact hR _ H _ _ b.drop.drop ⟨((decide (x0.d6.d8 = ⟨#[]⟩)) && (decide ((x0.d6.g5.n : Int) = 0 ∧ (x0.d6.o3.n : Int) = 1))), rfl, rfl, h⟩
   ·refine c5 (f8 _ _ _ _ _ _) ?_
    refine d7 h (fun _ h => ?_) (fun _ h => ?_)
    ·refine c5 C3 ?_
     refine c5 Y9 ?_
     refine d3 (l1 Tryd.isAgg9 (b.bring 1) rfl) ?_
     refine c5 (U0 _ _ _ _ _) ?_
     refine c5 (Pu.g fun hb => by have a := hb; with_reducible exact C3) ?_
     refine c5 (Pu.g fun hb => by have a := hb; simp only [r7 a]; with_reducible exact a0r) ?_
     refine d3 (Ld.g fun hb => by have a := hb; simp only [r7 a]; exact (l1 Tryd.isAgg37 (b.bring 1) rfl)) ?_
     refine c5 (Pu.g fun hb => by have a := hb; simp only [r7 a]; with_reducible exact (R0 _ _ _)) ?_
     refine c5 (Pu.g fun hb => by have a := hb; simp only [r7 a]; with_reducible exact (f8 _ _ _ _ _ _)) ?_
     refine c5 (L2 _ _) ?_
     refine d3 (Ld.g fun hb => by have a := hb; exact (ldA Tryd.isAgg175 Tryd.sizeOf175 rfl (b.at1 (o := 0) (vs := [(vi (x0.d6.g5.n : Int)), (vi (x0.d6.o3.n : Int))]) (nb rfl) rfl))) ?_
     refine c5 (Pu.g fun hb => by have a := hb; with_reducible exact (V6 _ _)) ?_
     refine c5 (Pu.g fun hb => by have a := hb; simp only [r7 a]; with_reducible exact (a2i _ _ _ _ _ _)) ?_
     refine c5 (L2 _ _) ?_
     exact hR _ H _ _ b.drop.drop ⟨(((decide (x0.d6.d8 = ⟨#[]⟩)) && (decide ((x0.d6.D9.n : Int) = 0))) && (decide ((x0.d6.g5.n : Int) = 0 ∧ (x0.d6.o3.n : Int) = 1))), rfl, rfl, h⟩
    ·have hj1 : ∀ (a6Z : Bool) (H : Hp) (w : World) (_ : Inv w0 ps0 H0 H [bx d 175 [(vi (m7.mk (x0.d6.g5.n : Int) (x0.d6.o3.n : Int)).fexprs), (vi (m7.mk (x0.d6.g5.n : Int) (x0.d6.o3.n : Int)).fconds)], bx e 140 (j7 x0.d6)] w) (_ : C5 ((decide (x0.d6.d8 = ⟨#[]⟩)) && (!(decide (0 < (IntKind.wrap .i64 ((x0.d6.D8.n : Int) + (x0.d6.D9.n : Int))))))) x0.d6.d5 a6Z (m7.mk (x0.d6.g5.n : Int) (x0.d6.o3.n : Int)) x0 H K), b0u (Value.pointer (some ⟨d, 0, none⟩)) (Value.bool ((decide (x0.d6.d8 = ⟨#[]⟩)) && (!(decide (0 < (IntKind.wrap .i64 ((x0.d6.D8.n : Int) + (x0.d6.D9.n : Int)))))))) (vi x0.d6.d5) (Value.bool a6Z) w R E := by
      intro a6Z H w I h
      unfold b0u
      intro _
      unfold C5 at h
      refine s7 h (fun _ h => ?_) (fun _ h => ?_)
      ·refine d3 (Ld.g fun hb => by have a := hb; exact (ldA Tryd.isAgg175 Tryd.sizeOf175 rfl (I.at1 (o := 0) (vs := [(vi (m7.mk (x0.d6.g5.n : Int) (x0.d6.o3.n : Int)).fexprs), (vi (m7.mk (x0.d6.g5.n : Int) (x0.d6.o3.n : Int)).fconds)]) (nb rfl) rfl))) ?_
       refine c5 (Pu.g fun hb => by have a := hb; with_reducible exact (V6 _ _)) ?_
       refine c5 (Pu.g fun hb => by have a := hb; simp only [r7 a]; with_reducible exact (a2i _ _ _ _ _ _)) ?_
       refine c5 (L2 _ _) ?_
       exact hR _ H _ _ I.drop.drop ⟨(((decide (x0.d6.d8 = ⟨#[]⟩)) && (!(decide (0 < (IntKind.wrap .i64 ((x0.d6.D8.n : Int) + (x0.d6.D9.n : Int))))))) && (decide ((m7.mk (x0.d6.g5.n : Int) (x0.d6.o3.n : Int)).fexprs = 0 ∧ (m7.mk (x0.d6.g5.n : Int) (x0.d6.o3.n : Int)).fconds = 1))), rfl, rfl, h⟩
      ·refine c5 (f8 _ _ _ _ _ _) ?_
       refine d7 h (fun _ h => ?_) (fun _ h => ?_)
       ·refine d3 (Ld.g fun hb => by have a := hb; exact (ldA Tryd.isAgg175 Tryd.sizeOf175 rfl (I.at1 (o := 0) (vs := [(vi (m7.mk (x0.d6.g5.n : Int) (x0.d6.o3.n : Int)).fexprs), (vi (m7.mk (x0.d6.g5.n : Int) (x0.d6.o3.n : Int)).fconds)]) (nb rfl) rfl))) ?_
        refine c5 (Pu.g fun hb => by have a := hb; with_reducible exact (b1O )) ?_
        refine c5 (Pu.g fun hb => by have a := hb; simp only [r7 a]; with_reducible exact (a2i _ _ _ _ _ _)) ?_
        refine c5 (L2 _ _) ?_
        exact hR _ H _ _ I.drop.drop ⟨(((decide (x0.d6.d8 = ⟨#[]⟩)) && (!(decide (0 < (IntKind.wrap .i64 ((x0.d6.D8.n : Int) + (x0.d6.D9.n : Int))))))) && (decide ((m7.mk (x0.d6.g5.n : Int) (x0.d6.o3.n : Int)).fexprs = 0 ∧ (m7.mk (x0.d6.g5.n : Int) (x0.d6.o3.n : Int)).fconds = 0))), rfl, rfl, h⟩
       ·exact hR _ H _ _ I.drop.drop ⟨false, rfl, rfl, h⟩
     refine r5 fun j1 hx1 => ?_
     refine c5 (f8 _ _ _ _ _ _) ?_
     refine d7 h (fun _ h => ?_) (fun _ h => ?_)
     ·exact hx1 _ _ (hj1 (decide (x0.d6.d5 = 5)) H _ ((b.bring 1).bring 1) h)
     ·refine c5 (f8 _ _ _ _ _ _) ?_
      exact hx1 _ _ (hj1 (decide (x0.d6.d5 = 6)) H _ ((b.bring 1).bring 1) h)
def a0y (x0 : m2) (H : Hp) (K : c7 → Hp → Prop) : Prop :=
 K (c7.B8 (F3.mk x0)) H
theorem a5M (x0 : m2) {H : Hp} {K : c7 → Hp → Prop} (h : a0y x0 H K) : a2A x0 H K := by
 refine Ct.of fun w0 w ps0 H0 R E I hR => b7y ?_
 unfold a0y at h
 unfold F96
 refine C1 I (cs := (f9 x0)) rfl fun b c a d => ?_
 refine d3 (lW Tryd.isAgg89 Tryd.sizeOf89 rfl a) ?_
 refine c5 (a9P _ _ _ _ _ _ _ _) ?_
 refine c5 (a8v (F3.mk x0)) ?_
 exact hR _ H _ _ a.drop ⟨(c7.B8 (F3.mk x0)), rfl, rfl, h⟩
def p5 (O5 : (List c7)) (H : Hp) (K : Sl → Hp → Prop) : Prop :=
 ∀ (A6 : Sl) (a : Hp), Hle H a → SlH a 1 l7 A6 O5 → A6.n ≤ A6.c →
 K A6 a
def p6 (U8 : Sl) (W2 : Int) (o6 : (List c7)) (m6 : Int) (H : Hp) (n2 : ((List c7) × Int) → Hp → Prop) (K : Sl → Hp → Prop) : Prop :=
 (m6 < W2 →
 (0 : Int) ≤ m6 ∧ (m6 : Int) < U8.n ∧ ∃ a : m2, EltH H U8 m6 4 (f9 a) ∧
 a2A a H (fun b c =>
 (o6.length + ([b] : List c7).length) * 17 ≤ 140737488355328 ∧
 n2 ((o6 ++ [b]), (IntKind.wrap .i64 (m6 + 1))) c)) ∧
 (¬ (m6 < W2) →
 p5 o6 H K)
def z6 (x0 : Sl) (H : Hp) (K : Sl → Hp → Prop) : Prop :=
 TL (([], 0) : (List c7) × Int) H fun (s : (List c7) × Int) H n2 => p6 x0 (x0.n : Int) s.1 s.2 H n2 K
theorem P8 (x0 : Sl) {H : Hp} {K : Sl → Hp → Prop} (h : z6 x0 H K) : r9 x0 H K := by
 refine Ct.of fun w0 w ps0 H0 R E I hR => b7x ?_
 unfold z6 at h
 unfold F95
 have hj1 : ∀ (O5 : (List c7)) (A6 : Sl) (Fs5j1 : Frag) (H : Hp) (w : World) (_ : RowL 126 1 l7 A6 O5 Fs5j1) (_ : Inv w0 ps0 H0 H [Fs5j1] w) (_ : p5 O5 H K), b0v (vs A6) w R E := by
  intro O5 A6 Fs5j1 H w a5N I h
  unfold b0v
  intro _
  unfold p5 at h
  obtain ⟨j, q, r, t, u⟩ := Inv.freezeC I a5N (by decide)
  replace h := h A6 j r t u
  exact hR _ j _ _ q ⟨A6, rfl, rfl, h⟩
 refine r5 fun j1 hx1 => ?_
 refine c5 (a3j _ _ _) ?_
 obtain ⟨f, d, v, y⟩ := h
 refine G5 (J := fun n l w => ∃ (s : (List c7) × Int) (H : Hp) (O6 : Sl) (Fs5l2 : Frag) , n = d s ∧ l = (match s with | (o6, m6) => [(vs O6), (vi m6)]) ∧ (match s with | (o6, m6) => RowL 126 1 l7 O6 o6 Fs5l2) ∧ (match s with | (o6, m6) => Inv w0 ps0 H0 H [Fs5l2] w) ∧ f s H) ⟨_, ([], 0), H, (Sl.mk none 0 0), [], rfl, rfl, (RowL.nil E1 G6), I.nil, v⟩ ?_
 rintro am an w next2 ⟨⟨o6, m6⟩, H, O6, Fs5l2, rfl, g, a0z, I, z⟩ hn2
 dsimp only at g I a0z
 simp only [List.map_cons, List.map_nil, List.cons.injEq, and_true] at g
 obtain ⟨e5, e10⟩ := g
 simp only [e5, e10]
 obtain ⟨n2, hm2, h⟩ : ∃ n2 : ((List c7) × Int) → Hp → Prop, (∀ s' H', n2 s' H' → f s' H' ∧ d s' < d (o6, m6)) ∧ p6 x0 (x0.n : Int) o6 m6 H n2 K := ⟨_, fun _ _ h => h, y (o6, m6) H (fun s' H' => f s' H' ∧ d s' < d (o6, m6)) z (fun _ _ a b => ⟨a, b⟩)⟩
 unfold b3s
 unfold p6 at h
 refine c5 (D1 _ _ _ _ _ _) ?_
 refine d7 h (fun _ h => ?_) (fun _ h => ?_)
 ·obtain ⟨aa, ab, k, i, h⟩ := h
  obtain ⟨ao, ap, ac, i⟩ := i
  refine c5 (S5 ac _ _ _ _ aa ab) ?_
  refine d3 (ldA (vs := (f9 k)) Tryd.isAgg89 Tryd.sizeOf89 rfl (I.atH i)) ?_
  refine q9 I Tryd.zeroValue89 (cs := [(vi 0), (vi 0), (Value.slice none 0 0), (Value.slice none 0 0)]) rfl fun aq ar ad au => ?_
  refine s9 ad Tryd.sizeOf89 (vs := (f9 k)) fun av m aw => ?_
  refine d3 (lW Tryd.isAgg89 Tryd.sizeOf89 rfl m) ?_
  refine d9 Tryd.call96 h m ?_
  rintro _ ae _ ax af _ _ ⟨o, rfl, rfl, h⟩
  refine a0p (e := 126) (c := l7) (xs := [o]) af (a5H _) rfl rfl E1 G6 (nb rfl) fun ay az ba ag p bb => ?_
  obtain ⟨ah, h⟩ := h
  refine a5d (s := O6) (xs := o6) (p.bring 2) a0z (ag.srcO ((p.bring 2).bring 1)) ah fun ai aj bc ak al bd => ?_
  refine c5 (s8 _ _ _ _ _ _) ?_
  exact hn2 _ _ _ (hm2 _ _ h).2 ⟨((o6 ++ [o]), (IntKind.wrap .i64 (m6 + 1))), ae, ai, aj, rfl, rfl, ak, ((al.bring 1).drop.bring 1).drop, (hm2 _ _ h).1⟩
 ·exact hx1 _ _ (hj1 o6 O6 Fs5l2 H _ a0z I h)
def W3 (x0 : F1) (H : Hp) (K : Sl → Hp → Prop) : Prop :=
 r9 x0.d6.o3 H (fun d e =>
 m9 x0.d6.g5 e (fun f g =>
 m8 x0.d6.D8 g (fun i j =>
 m8 x0.d6.D9 j (fun k l =>
 ∀ (a : Sl) (b : Hp), Hle l b → SlH b 1 csl a [d, f, i, k] → a.n ≤ a.c →
 r6 a b (fun m o =>
 K m o)))))
theorem a4m (x0 : F1) {H : Hp} {K : Sl → Hp → Prop} (h : W3 x0 H K) : a1f x0 H K := by
 refine Ct.of fun w0 w ps0 H0 R E I hR => b7w ?_
 unfold W3 at h
 unfold F94
 refine C1 I (cs := (j7 x0.d6)) rfl fun ad ae i af => ?_
 refine N7 i fun ag a => ?_
 refine f7 C3 ?_
 refine f7 a0s ?_
 refine f7 C3 ?_
 refine f7 a2u ?_
 refine f7 C3 ?_
 refine f7 Y7 ?_
 refine f7 C3 ?_
 refine f7 a0r ?_
 refine o8 (l1 Tryd.isAgg36 a rfl) ?_
 refine o8 (l1 Tryd.isAgg23 a rfl) ?_
 refine o8 (l1 Tryd.isAgg37 a rfl) ?_
 refine o8 (l1 Tryd.isAgg37 a rfl) ?_
 refine d9 Tryd.call95 h a ?_
 rintro _ _ _ ah b _ d ⟨j, rfl, rfl, h⟩
 refine ⟨(d _ a.lt1 (Inv.a2p (Fi := []) a)), (d _ a.lt1 (Inv.a2p (Fi := []) a)), (d _ a.lt1 (Inv.a2p (Fi := []) a)), ?_⟩
 refine d9 Tryd.call97 h b ?_
 rintro _ _ _ ai f _ g ⟨k, rfl, rfl, h⟩
 refine ⟨(g _ b.lt1 (Inv.a2p (Fi := []) b)), (g _ b.lt1 (Inv.a2p (Fi := []) b)), ?_⟩
 refine d9 Tryd.call58 h f ?_
 rintro _ _ _ aj l _ m ⟨n, rfl, rfl, h⟩
 refine ⟨(m _ f.lt1 (Inv.a2p (Fi := []) f)), ?_⟩
 refine d9 Tryd.call58 h l ?_
 rintro _ _ _ ak o _ _ ⟨p, rfl, rfl, h⟩
 refine a0p (e := 123) (c := csl) (xs := [j, k, n, p]) o (b4d _ _ _ _ _ _ _ _ _ _ _ _) rfl rfl a9l a9m (nb rfl) fun q al am r s an => ?_
 obtain ⟨t, u, v, y, z⟩ := Inv.freezeC s r (by decide)
 replace h := h q t v y z
 refine d9 Tryd.call55 h u ?_
 rintro _ aa _ ao ab _ _ ⟨ac, rfl, rfl, h⟩
 exact hR _ aa _ _ ab.drop ⟨ac, rfl, rfl, h⟩
def W4 (x0 : B7) (H : Hp) (K : Sl → Hp → Prop) : Prop :=
 m9 x0.l9.u7 H (fun a b =>
 K a b)
theorem a4n (x0 : B7) {H : Hp} {K : Sl → Hp → Prop} (h : W4 x0 H K) : a1g x0 H K := by
 refine Ct.of fun w0 w ps0 H0 R E I hR => b5F ?_
 unfold W4 at h
 unfold b7C
 refine C1 I (cs := (f6 x0.l9)) rfl fun e f a g => ?_
 refine c5 N5 ?_
 refine c5 Z0 ?_
 refine d3 (l1 Tryd.isAgg23 a rfl) ?_
 refine d9 Tryd.call97 h a ?_
 rintro _ b _ i c _ _ ⟨d, rfl, rfl, h⟩
 exact hR _ b _ _ c.drop ⟨d, rfl, rfl, h⟩
end Go.Proofs.YtaokfhdinhimfaaDoor
