/- Typed formulas of the program's functions, and the theorems that the contracts follow from them; printed by lift.py off the code. -/
import Derived.Test.YtaokfhdinhimfaaDoorySV1
namespace Go.Proofs.YtaokfhdinhimfaaDoor
open Go.RowKit
set_option maxRecDepth 100000
set_option maxHeartbeats 2000000
def Y6 (H : Hp) (K : Bool → Hp → Prop) : Prop :=
 ∀ (d : Sl) (e : Hp), Hle H e → SlH e 6 m5 d [(l0.mk 7 ⟨#[]⟩ (Sl.mk none 0 0) (Sl.mk none 0 0) (Sl.mk none 0 0) (Sl.mk none 0 0))] → d.n ≤ d.c →
 a2A (m6.mk (Sl.mk none 0 0) d) e (fun b f g =>
 ∃ a : c6, (((((decide (f = 0)) && (decide (b.f4 = 2))) && (decide (b.s7 = 1))) && (decide ((b.v7.n : Int) = 1))) = true → (0 : Int) ≤ 0 ∧ (0 : Int) < b.v7.n ∧ EltH g b.v7 0 10 (f6 a)) ∧
 K (((((decide (f = 0)) && (decide (b.f4 = 2))) && (decide (b.s7 = 1))) && (decide ((b.v7.n : Int) = 1))) && (decide (a.u9 = 0 ∧ a.fTo = 1 ∧ a.d4 = 1 ∧ a.a0W = (-1) ∧ a.Q1 = (-1) ∧ a.fOp = 0 ∧ a.fA.s8 = (-1) ∧ a.fA.p6 = 0 ∧ a.fB.s8 = (-1) ∧ a.fB.p6 = 0))) g)
theorem a5u {H : Hp} {K : Bool → Hp → Prop} (h : Y6 H K) : Y0 H K := by
 refine Ct.of fun w0 w ps0 H0 R E I hR => c1K ?_
 unfold Y6 at h
 unfold F6
 refine c5 (a9k _) ?_
 refine X8 (e := 39) (c := m5) (xs := [(l0.mk 7 ⟨#[]⟩ (Sl.mk none 0 0) (Sl.mk none 0 0) (Sl.mk none 0 0) (Sl.mk none 0 0))]) I (b3J _ _ _ _ _ _ _ _ _ _ _ _ _ _) rfl rfl a4X a4Y (nb rfl) fun k y z l m aa => ?_
 refine c5 (b3s _ _ _) ?_
 obtain ⟨o, p, q, r, s⟩ := Inv.freezeC m l (by decide)
 replace h := h k o q r s
 refine f7 Tryd.call7 h p ?_
 rintro _ t _ ab u _ _ ⟨i, j, rfl, rfl, h⟩
 refine c5 (j7 _ _ _ rfl) ?_
 refine c5 (j7 _ _ (vi j) rfl) ?_
 refine o3 u Tryd.zeroValue30 (cs := [(Value.slice none 0 0), (vi 0), (Value.slice none 0 0), (vi 0), (vi 0), (Value.slice none 0 0)]) rfl fun ac ad v ae => ?_
 refine o8 v Tryd.sizeOf30 (vs := (j6 i)) fun af d ag => ?_
 refine c5 (f9 _ _ _ _ _ _) ?_
 refine c5 (Pu.g fun hb => by have a := hb; with_reducible exact K1) ?_
 refine c7 (Ld.g fun hb => by have a := hb; simp only [f8 a]; exact (l1 Tryd.isAgg3 d rfl)) ?_
 refine c5 (Pu.g fun hb => by have a := hb; simp only [f8 a]; with_reducible exact (f9 _ _ _ _ _ _)) ?_
 refine c5 (B9 _ _) ?_
 refine c5 (Pu.g fun hb => by have a := hb; with_reducible exact a1y) ?_
 refine c7 (Ld.g fun hb => by have a := hb; simp only [f8 a]; exact (l1 Tryd.isAgg3 d rfl)) ?_
 refine c5 (Pu.g fun hb => by have a := hb; simp only [f8 a]; with_reducible exact (f9 _ _ _ _ _ _)) ?_
 refine c5 (B9 _ _) ?_
 refine c5 (Pu.g fun hb => by have a := hb; with_reducible exact M8) ?_
 refine c7 (Ld.g fun hb => by have a := hb; simp only [f8 a]; exact (l1 Tryd.isAgg28 d rfl)) ?_
 refine c5 (Pu.g fun hb => by have a := hb; simp only [f8 a]; with_reducible exact (a3J _ _ _)) ?_
 refine c5 (Pu.g fun hb => by have a := hb; simp only [f8 a]; with_reducible exact (f9 _ _ _ _ _ _)) ?_
 refine c5 (B9 _ _) ?_
 refine c5 (Pu.g fun hb => by have a := hb; with_reducible exact M8) ?_
 refine c7 (Ld.g fun hb => by have a := hb; simp only [f8 a]; exact (l1 Tryd.isAgg28 d rfl)) ?_
 obtain ⟨f, b, h⟩ := h
 obtain ⟨ah, ai, b⟩ := a8E b
 refine c5 (Pu.g fun hb => by have a := hb; simp only [f8 a]; with_reducible exact (a0X (b hb).2.2.1 _ _ _ _ (b hb).1 (b hb).2.1)) ?_
 refine c7 (Ld.g fun hb => by have a := hb; simp only [f8 a]; exact (ldA (vs := (f6 f)) Tryd.isAgg46 Tryd.sizeOf46 rfl (d.atH (b hb).2.2.2))) ?_
 refine c5 (Pu.g fun hb => by have a := hb; with_reducible exact (a3z _)) ?_
 refine c5 (Pu.g fun hb => by have a := hb; with_reducible exact (a3z _)) ?_
 refine c5 (Pu.g fun hb => by have a := hb; simp only [f8 a]; with_reducible exact (a6I _ _ _ _ _ _ _ _)) ?_
 refine c5 (Pu.g fun hb => by have a := hb; simp only [f8 a]; with_reducible exact (b6O _ _ _ _ _ _ _ _ _ _ _ _ _ _ _ _ _ _ _ _ _ _)) ?_
 refine c5 (B9 _ _) ?_
 exact hR _ t _ _ d.drop ⟨(((((decide (j = 0)) && (decide (i.f4 = 2))) && (decide (i.s7 = 1))) && (decide ((i.v7.n : Int) = 1))) && (decide (f.u9 = 0 ∧ f.fTo = 1 ∧ f.d4 = 1 ∧ f.a0W = (-1) ∧ f.Q1 = (-1) ∧ f.fOp = 0 ∧ f.fA.s8 = (-1) ∧ f.fA.p6 = 0 ∧ f.fB.s8 = (-1) ∧ f.fB.p6 = 0))), rfl, rfl, h⟩
def A8 (a : f3) (b : f3) (H : Hp) (K : f3 → Hp → Prop) : Prop :=
 K a H
def A9 (a8n : Int) (a6s : Bool) (a : f3) (b : f3) (H : Hp) (K : f3 → Hp → Prop) : Prop :=
 (a6s = true →
 A8 (f3.mk true a.farr a.fop a.fa true) b H K) ∧
 (a6s = false →
 (a8n = 9 →
 K (f3.mk true false false false false) H) ∧
 (¬ (a8n = 9) →
 (a8n = 10 →
 A8 (f3.mk true true a.fop a.fa a.fb) b H K) ∧
 (¬ (a8n = 10) →
 (a8n = 11 →
 A8 (f3.mk a.fdst true a.fop a.fa true) b H K) ∧
 (¬ (a8n = 11) →
 (a8n = 12 →
 A8 (f3.mk a.fdst a.farr true a.fa true) b H K) ∧
 (¬ (a8n = 12) →
 K (f3.mk false false false false false) H)))))
def G7 (a2j : Int) (b0C : Bool) (a : f3) (b : f3) (H : Hp) (K : f3 → Hp → Prop) : Prop :=
 (b0C = true →
 A8 (f3.mk true a.farr a.fop a.fa a.fb) b H K) ∧
 (b0C = false →
 (a2j = 4 →
 A9 a2j (decide (a2j = 4)) a b H K) ∧
 (¬ (a2j = 4) →
 (a2j = 5 →
 A9 a2j (decide (a2j = 5)) a b H K) ∧
 (¬ (a2j = 5) →
 (a2j = 6 →
 A9 a2j (decide (a2j = 6)) a b H K) ∧
 (¬ (a2j = 6) →
 (a2j = 7 →
 A9 a2j (decide (a2j = 7)) a b H K) ∧
 (¬ (a2j = 7) →
 A9 a2j (decide (a2j = 8)) a b H K)))))
def a1K (x0 : Int) (H : Hp) (K : f3 → Hp → Prop) : Prop :=
 (x0 = 2 →
 G7 x0 (decide (x0 = 2)) (f3.mk false false false true false) (f3.mk false false false false false) H K) ∧
 (¬ (x0 = 2) →
 G7 x0 (decide (x0 = 3)) (f3.mk false false false true false) (f3.mk false false false false false) H K)
theorem a7v (x0 : Int) {H : Hp} {K : f3 → Hp → Prop} (h : a1K x0 H K) : a1D x0 H K := by
 refine Ct.of fun w0 w ps0 H0 R E I hR => c0a ?_
 unfold a1K at h
 unfold F34
 refine o3 I Tryd.zeroValue91 (cs := [(Value.bool false), (Value.bool false), (Value.bool false), (Value.bool false), (Value.bool false)]) rfl fun a t i u => ?_
 refine c5 (b3w _) ?_
 refine o3 i Tryd.zeroValue91 (cs := [(Value.bool false), (Value.bool false), (Value.bool false), (Value.bool false), (Value.bool false)]) rfl fun b v j y => ?_
 refine o8 j Tryd.sizeOf91 (vs := [(Value.bool false), (Value.bool false), (Value.bool false), (Value.bool true), (Value.bool false)]) fun z d aa => ?_
 have hj1 : ∀ (c : f3) (H : Hp) (w : World) (_ : Inv w0 ps0 H0 H [bx b 91 (a3W c), bx a 91 [(Value.bool (f3.mk false false false false false).fdst), (Value.bool (f3.mk false false false false false).farr), (Value.bool (f3.mk false false false false false).fop), (Value.bool (f3.mk false false false false false).fa), (Value.bool (f3.mk false false false false false).fb)]] w) (_ : A8 c (f3.mk false false false false false) H K), b2h (Value.pointer (some ⟨a, 0, none⟩)) (Value.pointer (some ⟨b, 0, none⟩)) w R E := by
  intro c H w I h
  unfold b2h
  intro _
  unfold A8 at h
  refine c7 (lW Tryd.isAgg91 Tryd.sizeOf91 rfl I) ?_
  refine o8 (I.bring 1) Tryd.sizeOf91 (vs := (a3W c)) fun ab e ac => ?_
  refine O9 Tryd.isAgg91 Tryd.sizeOf91 rfl e ?_
  exact hR _ H _ _ e.drop.drop ⟨c, rfl, rfl, h⟩
 refine p8 fun j1 hx1 => ?_
 have hj2 : ∀ (b0C : Bool) (H : Hp) (w : World) (_ : Inv w0 ps0 H0 H [bx b 91 [(Value.bool (f3.mk false false false true false).fdst), (Value.bool (f3.mk false false false true false).farr), (Value.bool (f3.mk false false false true false).fop), (Value.bool (f3.mk false false false true false).fa), (Value.bool (f3.mk false false false true false).fb)], bx a 91 [(Value.bool (f3.mk false false false false false).fdst), (Value.bool (f3.mk false false false false false).farr), (Value.bool (f3.mk false false false false false).fop), (Value.bool (f3.mk false false false false false).fa), (Value.bool (f3.mk false false false false false).fb)]] w) (_ : G7 x0 b0C (f3.mk false false false true false) (f3.mk false false false false false) H K), b2j (Value.pointer (some ⟨a, 0, none⟩)) (Value.pointer (some ⟨b, 0, none⟩)) (vi x0) (Value.bool b0C) w j1 R E := by
  intro b0C H w I h
  unfold b2j
  intro _
  unfold G7 at h
  refine o5 h (fun _ h => ?_) (fun _ h => ?_)
  ·refine c5 a5q ?_
   refine E5 I Tryd.sizeOf4 fun ad k ae => ?_
   exact hx1 _ _ (hj1 (f3.mk true (f3.mk false false false true false).farr (f3.mk false false false true false).fop (f3.mk false false false true false).fa (f3.mk false false false true false).fb) H _ ((k.bring 1).bring 1) h)
  ·have hj3 : ∀ (a6s : Bool) (H : Hp) (w : World) (_ : Inv w0 ps0 H0 H [bx b 91 [(Value.bool (f3.mk false false false true false).fdst), (Value.bool (f3.mk false false false true false).farr), (Value.bool (f3.mk false false false true false).fop), (Value.bool (f3.mk false false false true false).fa), (Value.bool (f3.mk false false false true false).fb)], bx a 91 [(Value.bool (f3.mk false false false false false).fdst), (Value.bool (f3.mk false false false false false).farr), (Value.bool (f3.mk false false false false false).fop), (Value.bool (f3.mk false false false false false).fa), (Value.bool (f3.mk false false false false false).fb)]] w) (_ : A9 x0 a6s (f3.mk false false false true false) (f3.mk false false false false false) H K), b2i (Value.pointer (some ⟨a, 0, none⟩)) (Value.pointer (some ⟨b, 0, none⟩)) (vi x0) (Value.bool a6s) w j1 R E := by
    intro a6s H w I h
    unfold b2i
    intro _
    unfold A9 at h
    refine o5 h (fun _ h => ?_) (fun _ h => ?_)
    ·refine c5 a5q ?_
     refine E5 I Tryd.sizeOf4 fun af l ag => ?_
     refine c5 a5r ?_
     refine E5 l Tryd.sizeOf4 fun ah m ai => ?_
     exact hx1 _ _ (hj1 (f3.mk true (f3.mk false false false true false).farr (f3.mk false false false true false).fop (f3.mk false false false true false).fa true) H _ ((m.bring 1).bring 1) h)
    ·refine c5 (f9 _ _ _ _ _ _) ?_
     refine d6 h (fun _ h => ?_) (fun _ h => ?_)
     ·refine c5 (b3x _) ?_
      refine o8 (I.bring 1) Tryd.sizeOf91 (vs := [(Value.bool true), (Value.bool false), (Value.bool false), (Value.bool false), (Value.bool false)]) fun aj f ak => ?_
      refine O9 Tryd.isAgg91 Tryd.sizeOf91 rfl f ?_
      exact hR _ H _ _ f.drop.drop ⟨(f3.mk true false false false false), rfl, rfl, h⟩
     ·refine c5 (f9 _ _ _ _ _ _) ?_
      refine d6 h (fun _ h => ?_) (fun _ h => ?_)
      ·refine c5 a5q ?_
       refine E5 I Tryd.sizeOf4 fun al n am => ?_
       refine c5 a7p ?_
       refine E5 n Tryd.sizeOf4 fun an o ao => ?_
       exact hx1 _ _ (hj1 (f3.mk true true (f3.mk false false false true false).fop (f3.mk false false false true false).fa (f3.mk false false false true false).fb) H _ ((o.bring 1).bring 1) h)
      ·refine c5 (f9 _ _ _ _ _ _) ?_
       refine d6 h (fun _ h => ?_) (fun _ h => ?_)
       ·refine c5 a7p ?_
        refine E5 I Tryd.sizeOf4 fun ap p aq => ?_
        refine c5 a5r ?_
        refine E5 p Tryd.sizeOf4 fun ar q au => ?_
        exact hx1 _ _ (hj1 (f3.mk (f3.mk false false false true false).fdst true (f3.mk false false false true false).fop (f3.mk false false false true false).fa true) H _ ((q.bring 1).bring 1) h)
       ·refine c5 (f9 _ _ _ _ _ _) ?_
        refine d6 h (fun _ h => ?_) (fun _ h => ?_)
        ·refine c5 a9R ?_
         refine E5 I Tryd.sizeOf4 fun av r aw => ?_
         refine c5 a5r ?_
         refine E5 r Tryd.sizeOf4 fun ax s ay => ?_
         exact hx1 _ _ (hj1 (f3.mk (f3.mk false false false true false).fdst (f3.mk false false false true false).farr true (f3.mk false false false true false).fa true) H _ ((s.bring 1).bring 1) h)
        ·refine c5 (b5s ) ?_
         refine o8 (I.bring 1) Tryd.sizeOf91 (vs := [(Value.bool false), (Value.bool false), (Value.bool false), (Value.bool false), (Value.bool false)]) fun az g ba => ?_
         refine O9 Tryd.isAgg91 Tryd.sizeOf91 rfl g ?_
         exact hR _ H _ _ g.drop.drop ⟨(f3.mk false false false false false), rfl, rfl, h⟩
   refine p8 fun j3 hx3 => ?_
   refine c5 (f9 _ _ _ _ _ _) ?_
   refine d6 h (fun _ h => ?_) (fun _ h => ?_)
   ·exact hx3 _ _ (hj3 (decide (x0 = 4)) H _ ((I.bring 1).bring 1) h)
   ·refine c5 (f9 _ _ _ _ _ _) ?_
    refine d6 h (fun _ h => ?_) (fun _ h => ?_)
    ·exact hx3 _ _ (hj3 (decide (x0 = 5)) H _ ((I.bring 1).bring 1) h)
    ·refine c5 (f9 _ _ _ _ _ _) ?_
     refine d6 h (fun _ h => ?_) (fun _ h => ?_)
     ·exact hx3 _ _ (hj3 (decide (x0 = 6)) H _ ((I.bring 1).bring 1) h)
     ·refine c5 (f9 _ _ _ _ _ _) ?_
      refine d6 h (fun _ h => ?_) (fun _ h => ?_)
      ·exact hx3 _ _ (hj3 (decide (x0 = 7)) H _ ((I.bring 1).bring 1) h)
      ·refine c5 (f9 _ _ _ _ _ _) ?_
       exact hx3 _ _ (hj3 (decide (x0 = 8)) H _ ((I.bring 1).bring 1) h)
 refine p8 fun j2 hx2 => ?_
 refine c5 (f9 _ _ _ _ _ _) ?_
 refine d6 h (fun _ h => ?_) (fun _ h => ?_)
 ·exact hx2 _ _ (hj2 (decide (x0 = 2)) H _ ((d.bring 1).bring 1) h)
 ·refine c5 (f9 _ _ _ _ _ _) ?_
  exact hx2 _ _ (hj2 (decide (x0 = 3)) H _ ((d.bring 1).bring 1) h)
def a4e (H : Hp) (K : i5 → Hp → Prop) : Prop :=
 K (i5.mk (-1) 0) H
theorem a7w {H : Hp} {K : i5 → Hp → Prop} (h : a4e H K) : J0 H K := by
 refine Ct.of fun w0 w ps0 H0 R E I hR => c0f ?_
 unfold a4e at h
 unfold F39
 refine o3 I Tryd.zeroValue44 (cs := [(vi 0), (vi 0)]) rfl fun c d b e => ?_
 refine c5 (a3z _) ?_
 refine o8 b Tryd.sizeOf44 (vs := [(vi (-1)), (vi 0)]) fun f a g => ?_
 refine O9 Tryd.isAgg44 Tryd.sizeOf44 rfl a ?_
 exact hR _ H _ _ a.drop ⟨(i5.mk (-1) 0), rfl, rfl, h⟩
def F1 (a : c6) (a4O : Sl) (a4P : Int) (a4Q : Sl) (a4R : Int) (a4S : Int) (b4y : (List c6)) (a6S : (Option Nat)) (a6T : (Option Nat)) (e : m3) (H : Hp) (K : d3 → (List c6) → Hp → Prop) : Prop :=
 r6 (d3.mk (m0.mk a4O a4P a4Q a4R a4S (Sl.mk none 0 0)) a6S a6T) b4y a H (fun b c d =>
 K (c8 b) c d)
def B1 (a : c6) (M0 : Sl) (M1 : Int) (M2 : Sl) (M3 : Int) (M4 : Int) (K3 : (List c6)) (G8 : (Option Nat)) (F3 : (Option Nat)) (b : m3) (H : Hp) (K : d3 → (List c6) → Hp → Prop) : Prop :=
 (b.d4 = 4 →
 ∃ c : List (ByteArray × Int), MapH H (fun s : ByteArray => Value.string s) (fun n : Int => Value.int .i64 n) F3 c ∧
 F1 (c6.mk a.u9 a.fTo a.d4 a.a0W ((lk b.g7 c).getD 0) a.fOp a.fA a.fB) M0 M1 M2 M3 M4 K3 G8 F3 b H K) ∧
 (¬ (b.d4 = 4) →
 F1 a M0 M1 M2 M3 M4 K3 G8 F3 b H K)
def Y7 (x0 : d3) (e : (List c6)) (x1 : m3) (x2 : Int) (x3 : Int) (x4 : Int) (x5 : Int) (H : Hp) (K : d3 → (List c6) → Hp → Prop) : Prop :=
 a2e x1.d4 H (fun g i =>
 C6 x3 x4 g i (fun a d =>
 ((x1.z7.n : Int) = 1 →
 (0 : Int) ≤ 0 ∧ (0 : Int) < x1.z7.n ∧ ∃ f : m3, EltH d x1.z7 0 4 (i6 f) ∧
 E9 (c8 x0) e f x3 x5 d (fun j k b l m =>
 B1 (c6.mk k a.fTo a.d4 x2 a.Q1 a.fOp j a.fB) b.fc.p7 b.fc.r8 b.fc.m9 b.fc.f4 b.fc.s7 l b.fvars b.farrays x1 m K)) ∧
 (¬ ((x1.z7.n : Int) = 1) →
 ((x1.z7.n : Int) = 2 →
 L9 (c8 x0) e x1.z7 x3 x5 d (fun o p q c r s =>
 B1 (c6.mk q a.fTo a.d4 x2 a.Q1 a.fOp o p) c.fc.p7 c.fc.r8 c.fc.m9 c.fc.f4 c.fc.s7 r c.fvars c.farrays x1 s K)) ∧
 (¬ ((x1.z7.n : Int) = 2) →
 B1 (c6.mk a.u9 a.fTo a.d4 x2 a.Q1 a.fOp a.fA a.fB) x0.fc.p7 x0.fc.r8 x0.fc.m9 x0.fc.f4 x0.fc.s7 e x0.fvars x0.farrays x1 d K))))
theorem a5v (x0 : d3) (l : (List c6)) (x1 : m3) (x2 : Int) (x3 : Int) (x4 : Int) (x5 : Int) {H : Hp} {K : d3 → (List c6) → Hp → Prop} (h : Y7 x0 l x1 x2 x3 x4 x5 H K) : P7 x0 l x1 x2 x3 x4 x5 H K := by
 intro g0 m n o
 refine Ct.of fun w0 w ps0 H0 R E I hR => c0m ?_
 unfold Y7 at h
 unfold F46
 refine A5 I (cs := (i6 x1)) rfl fun p bk s bl => ?_
 refine c5 Q7 ?_
 refine c7 (l1 Tryd.isAgg3 s rfl) ?_
 refine f7 Tryd.call52 h s ?_
 rintro _ bm _ bn v _ _ ⟨bo, rfl, rfl, h⟩
 refine f7 Tryd.call29 h v ?_
 rintro _ y _ bp aa _ _ ⟨a, rfl, rfl, h⟩
 refine o3 aa Tryd.zeroValue46 (cs := [(vi 0), (vi 0), (vi 0), (vi 0), (vi 0), (vi 0), (vi 0), (vi 0), (vi 0), (vi 0)]) rfl fun g bq ab br => ?_
 refine o8 ab Tryd.sizeOf46 (vs := (f6 a)) fun bs ac bt => ?_
 refine c5 a5l ?_
 refine E5 ac Tryd.sizeOf3 fun bu c bv => ?_
 have hj1 : ∀ (b : c6) (M0 : Sl) (M1 : Int) (M2 : Sl) (M3 : Int) (M4 : Int) (K3 : (List c6)) (G8 : (Option Nat)) (F3 : (Option Nat)) (T9 : Sl) (U0 : Frag) (H : Hp) (w : World) (_ : RowL 46 10 f6 T9 K3 U0) (_ : Inv w0 ps0 H0 H [bx g 46 (f6 b), bx g0 59 [(vs M0), (vi M1), (vs M2), (vi M3), (vi M4), (vs T9), (Value.map G8), (Value.map F3)], bx p 25 (i6 x1), U0] w) (_ : B1 b M0 M1 M2 M3 M4 K3 G8 F3 x1 H K), b2p (Value.pointer (some ⟨g0, 0, none⟩)) (Value.pointer (some ⟨p, 0, none⟩)) (Value.pointer (some ⟨g, 0, none⟩)) w R E := by
  intro b M0 M1 M2 M3 M4 K3 G8 F3 T9 U0 H w a7x I h
  unfold b2p
  intro _
  unfold B1 at h
  have hj2 : ∀ (q : c6) (a4O : Sl) (a4P : Int) (a4Q : Sl) (a4R : Int) (a4S : Int) (a6S : (Option Nat)) (a6T : (Option Nat)) (H : Hp) (w : World) (_ : Inv w0 ps0 H0 H [bx g 46 (f6 q), bx g0 59 [(vs a4O), (vi a4P), (vs a4Q), (vi a4R), (vi a4S), (vs T9), (Value.map a6S), (Value.map a6T)], bx p 25 (i6 x1), U0] w) (_ : F1 q a4O a4P a4Q a4R a4S K3 a6S a6T x1 H K), b2o (Value.pointer (some ⟨g0, 0, none⟩)) (Value.pointer (some ⟨g, 0, none⟩)) w R E := by
   intro q a4O a4P a4Q a4R a4S a6S a6T H w I h
   unfold b2o
   intro _
   unfold F1 at h
   refine c7 (lW Tryd.isAgg46 Tryd.sizeOf46 rfl I) ?_
   refine f7 Tryd.call31 (h g0 T9 U0 a7x) ((I.bring 3).bring 2) ?_
   rintro _ ad _ bw ae _ _ ⟨af, ag, ah, ai, rfl, rfl, aj, h⟩
   exact hR _ ad _ _ ((((ae.bring 2).drop.bring 2).drop.bring 1).bring 1) ⟨(c8 af), ag, ah, ai, rfl, rfl, aj, h⟩
  refine p8 fun j2 hx2 => ?_
  refine c5 Q7 ?_
  refine c7 (l1 Tryd.isAgg3 (I.bring 2) rfl) ?_
  refine c5 (f9 _ _ _ _ _ _) ?_
  refine d6 h (fun _ h => ?_) (fun _ h => ?_)
  ·refine L5 I fun bz i => ?_
   refine d7 (p5 _) ?_
   refine d7 a7l ?_
   refine d7 a2X ?_
   refine o4 (l1 Tryd.isAgg57 (i.bring 1) rfl) ?_
   refine o4 (l1 Tryd.isAgg9 (i.bring 2) rfl) ?_
   obtain ⟨ak, al, h⟩ := h
   refine a7i (keyS Tryd.underlying9) Tryd.underlying57 (z := 0) Tryd.zeroValue3 i al x1.g7 ?_
   refine d7 a5o ?_
   refine E5 i Tryd.sizeOf3 fun ca am cb => ?_
   exact hx2 _ _ (hj2 (c6.mk b.u9 b.fTo b.d4 b.a0W ((lk x1.g7 ak).getD 0) b.fOp b.fA b.fB) M0 M1 M2 M3 M4 G8 F3 H _ ((((am.bring 3).bring 3).bring 3).bring 3) h)
  ·exact hx2 _ _ (hj2 b M0 M1 M2 M3 M4 G8 F3 H _ ((((I.bring 3).bring 3).bring 3).bring 3) h)
 refine p8 fun j1 hx1 => ?_
 refine c5 a0S ?_
 refine c7 (l1 Tryd.isAgg23 (c.bring 1) rfl) ?_
 refine c5 (a1v _ _ _) ?_
 refine c5 (f9 _ _ _ _ _ _) ?_
 refine d6 h (fun _ h => ?_) (fun _ h => ?_)
 ·refine c5 a0S ?_
  refine c7 (l1 Tryd.isAgg23 (c.bring 1) rfl) ?_
  obtain ⟨an, ao, ap, r, h⟩ := h
  obtain ⟨cc, cd, aq, r⟩ := r
  refine c5 (a0Y aq _ _ _ _ an ao) ?_
  refine c7 (ldA (vs := (i6 ap)) Tryd.isAgg25 Tryd.sizeOf25 rfl (c.atH r)) ?_
  refine f7 Tryd.call47 (h g0 m n o) ((c.bring 3).bring 3) ?_
  rintro _ ar _ ce au _ _ ⟨j, t, d, av, aw, ax, rfl, rfl, ay, h⟩
  refine c5 (j7 _ _ _ rfl) ?_
  refine c5 (j7 _ _ (vi t) rfl) ?_
  refine c5 X9 ?_
  refine Z9 (au.bring 2) Tryd.sizeOf44 (vs := (j9 j)) (cs' := [(vi a.u9), (vi a.fTo), (vi a.d4), (vi x2), (vi a.Q1), (vi a.fOp), (vi j.s8), (vi j.p6), (vi a.fB.s8), (vi a.fB.p6)]) rfl rfl (nb rfl) rfl rfl fun cf az cg => ?_
  refine c5 T4 ?_
  refine E5 az Tryd.sizeOf3 fun ch ba ci => ?_
  exact hx1 _ _ (hj1 (c6.mk t a.fTo a.d4 x2 a.Q1 a.fOp j a.fB) d.fc.p7 d.fc.r8 d.fc.m9 d.fc.f4 d.fc.s7 av d.fvars d.farrays aw ax ar _ ay ((((ba.bring 2).bring 3).bring 3).bring 3) h)
 ·refine c5 (f9 _ _ _ _ _ _) ?_
  refine d6 h (fun _ h => ?_) (fun _ h => ?_)
  ·refine c5 a0S ?_
   refine c7 (l1 Tryd.isAgg23 (c.bring 1) rfl) ?_
   refine f7 Tryd.call30 (h g0 m n o) ((c.bring 3).bring 3) ?_
   rintro _ bb _ cj bc _ _ ⟨f, k, u, e, bd, be, bf, rfl, rfl, bg, h⟩
   refine c5 (j7 _ _ _ rfl) ?_
   refine c5 (j7 _ _ _ rfl) ?_
   refine c5 (j7 _ _ (vi u) rfl) ?_
   refine c5 X9 ?_
   refine Z9 (bc.bring 2) Tryd.sizeOf44 (vs := (j9 f)) (cs' := [(vi a.u9), (vi a.fTo), (vi a.d4), (vi x2), (vi a.Q1), (vi a.fOp), (vi f.s8), (vi f.p6), (vi a.fB.s8), (vi a.fB.p6)]) rfl rfl (nb rfl) rfl rfl fun ck bh cl => ?_
   refine c5 a1A ?_
   refine Z9 bh Tryd.sizeOf44 (vs := (j9 k)) (cs' := [(vi a.u9), (vi a.fTo), (vi a.d4), (vi x2), (vi a.Q1), (vi a.fOp), (vi f.s8), (vi f.p6), (vi k.s8), (vi k.p6)]) rfl rfl (nb rfl) rfl rfl fun cm bi cn => ?_
   refine c5 T4 ?_
   refine E5 bi Tryd.sizeOf3 fun co bj cp => ?_
   exact hx1 _ _ (hj1 (c6.mk u a.fTo a.d4 x2 a.Q1 a.fOp f k) e.fc.p7 e.fc.r8 e.fc.m9 e.fc.f4 e.fc.s7 bd e.fvars e.farrays be bf bb _ bg ((((bj.bring 2).bring 3).bring 3).bring 3) h)
  ·exact hx1 _ _ (hj1 (c6.mk a.u9 a.fTo a.d4 x2 a.Q1 a.fOp a.fA a.fB) x0.fc.p7 x0.fc.r8 x0.fc.m9 x0.fc.f4 x0.fc.s7 l x0.fvars x0.farrays m n y _ o ((((c.bring 3).bring 2).bring 3).bring 3) h)
def U7 (x0 : d3) (b : (List c6)) (x1 : Int) (x2 : m3) (x3 : Int) (x4 : Int) (H : Hp) (K : d3 → (List c6) → Hp → Prop) : Prop :=
 O3 (c8 x0) b x2 H (fun e c d =>
 ((!c) = true →
 P7 (c8 x0) b x2 x1 x3 x4 0 d (fun f g i =>
 K (c8 f) g i)) ∧
 ((!c) = false →
 C6 x3 x4 2 d (fun a j =>
 r6 (c8 x0) b (c6.mk a.u9 a.fTo a.d4 x1 a.Q1 a.fOp e a.fB) j (fun k l m =>
 K (c8 k) l m))))
theorem a4T (x0 : d3) (i : (List c6)) (x1 : Int) (x2 : m3) (x3 : Int) (x4 : Int) {H : Hp} {K : d3 → (List c6) → Hp → Prop} (h : U7 x0 i x1 x2 x3 x4 H K) : U3 x0 i x1 x2 x3 x4 H K := by
 intro g0 c d e
 refine Ct.of fun w0 w ps0 H0 R E I hR => b9U ?_
 unfold U7 at h
 unfold F28
 refine A5 I (cs := (i6 x2)) rfl fun ak al j am => ?_
 refine c7 (lW Tryd.isAgg25 Tryd.sizeOf25 rfl j) ?_
 refine f7 Tryd.call45 (h g0 c d e) ((j.bring 2).bring 2) ?_
 rintro _ _ _ an l _ _ ⟨b, m, rfl, rfl, h⟩
 refine c5 (j7 _ _ _ rfl) ?_
 refine c5 (j7 _ _ (Value.bool m) rfl) ?_
 refine o3 l Tryd.zeroValue44 (cs := [(vi 0), (vi 0)]) rfl fun ao ap n aq => ?_
 refine o8 n Tryd.sizeOf44 (vs := (j9 b)) fun ar f au => ?_
 refine c5 (N6 _) ?_
 refine o5 h (fun _ h => ?_) (fun _ h => ?_)
 ·refine c7 (lW Tryd.isAgg25 Tryd.sizeOf25 rfl (f.bring 3)) ?_
  refine f7 Tryd.call46 (h g0 c d e) ((f.bring 2).bring 2) ?_
  rintro _ p _ av q _ _ ⟨r, s, t, u, rfl, rfl, v, h⟩
  exact hR _ p _ _ ((((q.bring 2).drop.bring 2).drop.bring 1).bring 1) ⟨(c8 r), s, t, u, rfl, rfl, v, h⟩
 ·refine f7 Tryd.call29 h f ?_
  rintro _ _ _ aw y _ _ ⟨a, rfl, rfl, h⟩
  refine o3 y Tryd.zeroValue46 (cs := [(vi 0), (vi 0), (vi 0), (vi 0), (vi 0), (vi 0), (vi 0), (vi 0), (vi 0), (vi 0)]) rfl fun ax ay z az => ?_
  refine o8 z Tryd.sizeOf46 (vs := (f6 a)) fun ba aa bb => ?_
  refine L5 aa fun bc g => ?_
  refine d7 a5l ?_
  refine o4 (lW Tryd.isAgg44 Tryd.sizeOf44 rfl (g.bring 1)) ?_
  refine E5 g Tryd.sizeOf3 fun bd ab ac => ?_
  refine ⟨(ac _ (Inv.b1A ((g.bring 1).bring 1))), ?_⟩
  refine d7 X9 ?_
  refine Z9 ab Tryd.sizeOf44 (vs := (j9 b)) (cs' := [(vi a.u9), (vi a.fTo), (vi a.d4), (vi x1), (vi a.Q1), (vi a.fOp), (vi b.s8), (vi b.p6), (vi a.fB.s8), (vi a.fB.p6)]) rfl rfl (nb rfl) rfl rfl fun be k bf => ?_
  refine c7 (ldA Tryd.isAgg46 Tryd.sizeOf46 rfl (k.at1 (o := 0) (vs := [(vi a.u9), (vi a.fTo), (vi a.d4), (vi x1), (vi a.Q1), (vi a.fOp), (vi b.s8), (vi b.p6), (vi a.fB.s8), (vi a.fB.p6)]) (nb rfl) rfl)) ?_
  refine f7 Tryd.call31 (h g0 c d e) ((k.bring 3).bring 3) ?_
  rintro _ ad _ bg ae _ _ ⟨af, ag, ah, ai, rfl, rfl, aj, h⟩
  exact hR _ ad _ _ (((((ae.bring 2).drop.bring 2).drop.bring 2).drop.bring 1).bring 1) ⟨(c8 af), ag, ah, ai, rfl, rfl, aj, h⟩
def Y8 (x0 : d3) (a : (List c6)) (x1 : l0) (x2 : Int) (x3 : Int) (H : Hp) (K : d3 → (List c6) → Hp → Prop) : Prop :=
 (x1.d4 = 1 →
 ∃ c : List (ByteArray × Int), MapH H (fun s : ByteArray => Value.string s) (fun n : Int => Value.int .i64 n) x0.fvars c ∧
 (0 : Int) ≤ 0 ∧ (0 : Int) < x1.i8.n ∧ ∃ d : m3, EltH H x1.i8 0 4 (i6 d) ∧
 U3 (c8 x0) a ((lk x1.g7 c).getD 0) d x2 x3 H (fun v y z =>
 K (c8 v) y z)) ∧
 (¬ (x1.d4 = 1) →
 (x1.d4 = 2 →
 C6 x2 x3 11 H (fun b e =>
 ∃ f : List (ByteArray × Int), MapH e (fun s : ByteArray => Value.string s) (fun n : Int => Value.int .i64 n) x0.farrays f ∧
 L9 (c8 x0) a x1.i8 x2 0 e (fun aa ab ac ad ae af =>
 r6 (c8 ad) ae (c6.mk ac b.fTo b.d4 b.a0W ((lk x1.g7 f).getD 0) b.fOp aa ab) af (fun ag ah ai =>
 K (c8 ag) ah ai)))) ∧
 (¬ (x1.d4 = 2) →
 (x1.d4 = 3 →
 G3 (c8 x0) a x1.G9 x3 H (fun g aj ak al =>
 G3 (c8 aj) ak x1.H7 x3 al (fun i am an j =>
 (0 : Int) ≤ 0 ∧ (0 : Int) < x1.q9.n ∧ ∃ k : o9, EltH j x1.q9 0 4 (l7 k) ∧
 s9 (c8 am) an k x2 g i j (fun ao ap aq =>
 D4 (c8 ao) ap x1.G9 g x3 aq (fun ar au av =>
 D4 (c8 ar) au x1.H7 i x3 av (fun aw ax ay =>
 K (c8 aw) ax ay)))))) ∧
 (¬ (x1.d4 = 3) →
 (x1.d4 = 4 →
 G3 (c8 x0) a x1.G9 x2 H (fun l az ba m =>
 (0 : Int) ≤ 0 ∧ (0 : Int) < x1.q9.n ∧ ∃ o : o9, EltH m x1.q9 0 4 (l7 o) ∧
 s9 (c8 az) ba o x2 l x3 m (fun bb bc bd =>
 D4 (c8 bb) bc x1.G9 l x2 bd (fun be bf bg =>
 K (c8 be) bf bg)))) ∧
 (¬ (x1.d4 = 4) →
 (x1.d4 = 5 →
 v2 (c8 x0) a H (fun p bh bi bj =>
 v2 (c8 bh) bi bj (fun q bk bl r =>
 (0 : Int) ≤ 0 ∧ (0 : Int) < x1.q9.n ∧ ∃ t : o9, EltH r x1.q9 0 4 (l7 t) ∧
 s9 (c8 bk) bl t x2 p q r (fun bm bn bo =>
 C6 p x3 13 bo (fun bp bq =>
 r6 (c8 bm) bn bp bq (fun br bs bt =>
 C6 q x3 14 bt (fun bu bv =>
 r6 (c8 br) bs bu bv (fun bw bz ca =>
 K (c8 bw) bz ca)))))))) ∧
 (¬ (x1.d4 = 5) →
 (x1.d4 = 6 →
 (0 : Int) ≤ 0 ∧ (0 : Int) < x1.q9.n ∧ ∃ u : o9, EltH H x1.q9 0 4 (l7 u) ∧
 s9 (c8 x0) a u x2 x3 x0.fc.s7 H (fun cb cc cd =>
 K (c8 cb) cc cd)) ∧
 (¬ (x1.d4 = 6) →
 C6 x2 x3 1 H (fun ce cf =>
 r6 (c8 x0) a ce cf (fun cg ch ci =>
 K (c8 cg) ch ci))))))))
theorem a5w (x0 : d3) (v : (List c6)) (x1 : l0) (x2 : Int) (x3 : Int) {H : Hp} {K : d3 → (List c6) → Hp → Prop} (h : Y8 x0 v x1 x2 x3 H K) : Y3 x0 v x1 x2 x3 H K := by
 intro g0 c d e
 refine Ct.of fun w0 w ps0 H0 R E I hR => b9L ?_
 unfold Y8 at h
 unfold F19
 refine A5 I (cs := (m5 x1)) rfl fun ey ez b fa => ?_
 refine c5 a3S ?_
 refine c7 (l1 Tryd.isAgg3 b rfl) ?_
 refine c5 (f9 _ _ _ _ _ _) ?_
 refine d6 h (fun _ h => ?_) (fun _ h => ?_)
 ·refine L5 b fun fb g => ?_
  refine d7 (p5 _) ?_
  refine d7 a7k ?_
  refine d7 a0R ?_
  refine d7 a3T ?_
  refine o4 (l1 Tryd.isAgg57 (g.bring 1) rfl) ?_
  refine o4 (l1 Tryd.isAgg9 g rfl) ?_
  obtain ⟨fc, ag, h⟩ := h
  refine a7i (keyS Tryd.underlying9) Tryd.underlying57 (z := 0) Tryd.zeroValue3 g ag x1.g7 ?_
  refine o4 (l1 Tryd.isAgg23 g rfl) ?_
  obtain ⟨ah, ai, aj, l, h⟩ := h
  obtain ⟨fd, fe, ak, l⟩ := l
  refine d7 (a0Y ak _ _ _ _ ah ai) ?_
  refine o4 (ldA (vs := (i6 aj)) Tryd.isAgg25 Tryd.sizeOf25 rfl (g.atH l)) ?_
  refine f7 Tryd.call28 (h g0 c d e) ((g.bring 2).bring 2) ?_
  rintro _ al _ ff am _ _ ⟨an, ao, ap, aq, rfl, rfl, ar, h⟩
  exact hR _ al _ _ (((am.bring 2).drop.bring 1).bring 1) ⟨(c8 an), ao, ap, aq, rfl, rfl, ar, h⟩
 ·refine c5 (f9 _ _ _ _ _ _) ?_
  refine d6 h (fun _ h => ?_) (fun _ h => ?_)
  ·refine f7 Tryd.call29 h b ?_
   rintro _ _ _ fg au _ _ ⟨a, rfl, rfl, h⟩
   refine o3 au Tryd.zeroValue46 (cs := [(vi 0), (vi 0), (vi 0), (vi 0), (vi 0), (vi 0), (vi 0), (vi 0), (vi 0), (vi 0)]) rfl fun fh fi av fj => ?_
   refine o8 av Tryd.sizeOf46 (vs := (f6 a)) fun fk aw fl => ?_
   refine L5 aw fun fm j => ?_
   refine d7 (p5 _) ?_
   refine d7 a7l ?_
   refine d7 a0R ?_
   refine o4 (l1 Tryd.isAgg57 (j.bring 2) rfl) ?_
   refine o4 (l1 Tryd.isAgg9 (j.bring 1) rfl) ?_
   obtain ⟨m, ax, h⟩ := h
   refine a7i (keyS Tryd.underlying9) Tryd.underlying57 (z := 0) Tryd.zeroValue3 j ax x1.g7 ?_
   refine d7 a5o ?_
   refine E5 j Tryd.sizeOf3 fun fn y fo => ?_
   refine c5 a3T ?_
   refine c7 (l1 Tryd.isAgg23 (y.bring 1) rfl) ?_
   refine f7 Tryd.call30 (h g0 c d e) ((y.bring 3).bring 3) ?_
   rintro _ _ _ fp ay _ _ ⟨f, i, aa, fq, fs, az, ba, rfl, rfl, bb, h⟩
   refine c5 (j7 _ _ _ rfl) ?_
   refine c5 (j7 _ _ _ rfl) ?_
   refine c5 (j7 _ _ (vi aa) rfl) ?_
   refine c5 X9 ?_
   refine Z9 (ay.bring 2) Tryd.sizeOf44 (vs := (j9 f)) (cs' := [(vi a.u9), (vi a.fTo), (vi a.d4), (vi a.a0W), (vi ((lk x1.g7 m).getD 0)), (vi a.fOp), (vi f.s8), (vi f.p6), (vi a.fB.s8), (vi a.fB.p6)]) rfl rfl (nb rfl) rfl rfl fun ft bc fu => ?_
   refine c5 a1A ?_
   refine Z9 bc Tryd.sizeOf44 (vs := (j9 i)) (cs' := [(vi a.u9), (vi a.fTo), (vi a.d4), (vi a.a0W), (vi ((lk x1.g7 m).getD 0)), (vi a.fOp), (vi f.s8), (vi f.p6), (vi i.s8), (vi i.p6)]) rfl rfl (nb rfl) rfl rfl fun fv bd fw => ?_
   refine c5 T4 ?_
   refine E5 bd Tryd.sizeOf3 fun fx ab fy => ?_
   refine c7 (ldA Tryd.isAgg46 Tryd.sizeOf46 rfl (ab.at1 (o := 0) (vs := [(vi aa), (vi a.fTo), (vi a.d4), (vi a.a0W), (vi ((lk x1.g7 m).getD 0)), (vi a.fOp), (vi f.s8), (vi f.p6), (vi i.s8), (vi i.p6)]) (nb rfl) rfl)) ?_
   refine f7 Tryd.call31 (h g0 az ba bb) ((ab.bring 2).bring 2) ?_
   rintro _ be _ fz bf _ _ ⟨bg, bh, bi, bj, rfl, rfl, bk, h⟩
   exact hR _ be _ _ ((((bf.bring 2).drop.bring 2).drop.bring 1).bring 1) ⟨(c8 bg), bh, bi, bj, rfl, rfl, bk, h⟩
  ·refine c5 (f9 _ _ _ _ _ _) ?_
   refine d6 h (fun _ h => ?_) (fun _ h => ?_)
   ·refine c5 a1z ?_
    refine c7 (l1 Tryd.isAgg37 b rfl) ?_
    refine f7 Tryd.call32 (h g0 c d e) ((b.bring 2).bring 2) ?_
    rintro _ _ _ ga ac _ _ ⟨gb, gc, gd, bl, bm, rfl, rfl, bn, h⟩
    refine c5 a2W ?_
    refine c7 (l1 Tryd.isAgg37 (ac.bring 2) rfl) ?_
    refine f7 Tryd.call32 (h g0 bl bm bn) ((ac.bring 1).bring 1) ?_
    rintro _ _ _ ge n _ _ ⟨gf, gg, gh, bo, bp, rfl, rfl, bq, h⟩
    refine c5 a1B ?_
    refine c7 (l1 Tryd.isAgg36 (n.bring 2) rfl) ?_
    obtain ⟨br, bs, bt, p, h⟩ := h
    obtain ⟨gi, gj, bu, p⟩ := p
    refine c5 (W0 bu _ _ _ _ br bs) ?_
    refine c7 (ldA (vs := (l7 bt)) Tryd.isAgg89 Tryd.sizeOf89 rfl (n.atH p)) ?_
    refine f7 Tryd.call33 (h g0 bo bp bq) ((n.bring 1).bring 1) ?_
    rintro _ _ _ gk ad _ _ ⟨gl, gm, bv, bw, rfl, rfl, bz, h⟩
    refine c5 a1z ?_
    refine c7 (l1 Tryd.isAgg37 (ad.bring 2) rfl) ?_
    refine f7 Tryd.call13 (h g0 bv bw bz) ((ad.bring 1).bring 1) ?_
    rintro _ _ _ gn ae _ _ ⟨go, gp, ca, cb, rfl, rfl, cc, h⟩
    refine c5 a2W ?_
    refine c7 (l1 Tryd.isAgg37 (ae.bring 2) rfl) ?_
    refine f7 Tryd.call13 (h g0 ca cb cc) ((ae.bring 1).bring 1) ?_
    rintro _ cd _ gq ce _ _ ⟨cf, cg, ch, ci, rfl, rfl, cj, h⟩
    exact hR _ cd _ _ (((ce.bring 2).drop.bring 1).bring 1) ⟨(c8 cf), cg, ch, ci, rfl, rfl, cj, h⟩
   ·refine c5 (f9 _ _ _ _ _ _) ?_
    refine d6 h (fun _ h => ?_) (fun _ h => ?_)
    ·refine c5 a1z ?_
     refine c7 (l1 Tryd.isAgg37 b rfl) ?_
     refine f7 Tryd.call32 (h g0 c d e) ((b.bring 2).bring 2) ?_
     rintro _ _ _ gr q _ _ ⟨gs, gt, gu, ck, cl, rfl, rfl, cm, h⟩
     refine c5 a1B ?_
     refine c7 (l1 Tryd.isAgg36 (q.bring 2) rfl) ?_
     obtain ⟨cn, co, cp, r, h⟩ := h
     obtain ⟨gv, gw, cq, r⟩ := r
     refine c5 (W0 cq _ _ _ _ cn co) ?_
     refine c7 (ldA (vs := (l7 cp)) Tryd.isAgg89 Tryd.sizeOf89 rfl (q.atH r)) ?_
     refine f7 Tryd.call33 (h g0 ck cl cm) ((q.bring 1).bring 1) ?_
     rintro _ _ _ gx af _ _ ⟨gy, gz, cr, ct, rfl, rfl, cu, h⟩
     refine c5 a1z ?_
     refine c7 (l1 Tryd.isAgg37 (af.bring 2) rfl) ?_
     refine f7 Tryd.call13 (h g0 cr ct cu) ((af.bring 1).bring 1) ?_
     rintro _ cv _ ha cw _ _ ⟨cx, cy, cz, da, rfl, rfl, db, h⟩
     exact hR _ cv _ _ (((cw.bring 2).drop.bring 1).bring 1) ⟨(c8 cx), cy, cz, da, rfl, rfl, db, h⟩
    ·refine c5 (f9 _ _ _ _ _ _) ?_
     refine d6 h (fun _ h => ?_) (fun _ h => ?_)
     ·refine f7 Tryd.call12 (h g0 c d e) ((b.bring 2).bring 2) ?_
      rintro _ _ _ hb dc _ _ ⟨hc, hd, he, dd, de, rfl, rfl, df, h⟩
      refine f7 Tryd.call12 (h g0 dd de df) ((dc.bring 1).bring 1) ?_
      rintro _ _ _ hf s _ _ ⟨hg, hh, hi, dg, dh, rfl, rfl, di, h⟩
      refine c5 a1B ?_
      refine c7 (l1 Tryd.isAgg36 (s.bring 2) rfl) ?_
      obtain ⟨dj, dk, dl, t, h⟩ := h
      obtain ⟨hj, hk, dm, t⟩ := t
      refine c5 (W0 dm _ _ _ _ dj dk) ?_
      refine c7 (ldA (vs := (l7 dl)) Tryd.isAgg89 Tryd.sizeOf89 rfl (s.atH t)) ?_
      refine f7 Tryd.call33 (h g0 dg dh di) ((s.bring 1).bring 1) ?_
      rintro _ _ _ hl dn _ _ ⟨hm, hn, dp, dq, rfl, rfl, dr, h⟩
      refine f7 Tryd.call29 h dn ?_
      rintro _ _ _ ho ds _ _ ⟨hp, rfl, rfl, h⟩
      refine f7 Tryd.call31 (h g0 dp dq dr) ((ds.bring 1).bring 1) ?_
      rintro _ _ _ hq dt _ _ ⟨hr, hs, du, dv, rfl, rfl, dw, h⟩
      refine f7 Tryd.call29 h dt ?_
      rintro _ _ _ ht dx _ _ ⟨hu, rfl, rfl, h⟩
      refine f7 Tryd.call31 (h g0 du dv dw) ((dx.bring 1).bring 1) ?_
      rintro _ dy _ hv dz _ _ ⟨ea, eb, ec, ed, rfl, rfl, ee, h⟩
      exact hR _ dy _ _ (((dz.bring 2).drop.bring 1).bring 1) ⟨(c8 ea), eb, ec, ed, rfl, rfl, ee, h⟩
     ·refine c5 (f9 _ _ _ _ _ _) ?_
      refine d6 h (fun _ h => ?_) (fun _ h => ?_)
      ·refine L5 b fun hw k => ?_
       refine d7 a1B ?_
       refine d7 (p5 _) ?_
       refine d7 E7 ?_
       refine d7 a1y ?_
       refine o4 (l1 Tryd.isAgg36 k rfl) ?_
       obtain ⟨ef, eg, eh, u, h⟩ := h
       obtain ⟨hx, hy, ei, u⟩ := u
       refine d7 (W0 ei _ _ _ _ ef eg) ?_
       refine o4 (ldA (vs := (l7 eh)) Tryd.isAgg89 Tryd.sizeOf89 rfl (k.atH u)) ?_
       refine o4 (l1 Tryd.isAgg3 (k.bring 1) rfl) ?_
       refine f7 Tryd.call33 (h g0 c d e) ((k.bring 2).bring 2) ?_
       rintro _ ej _ hz ek _ _ ⟨el, em, en, eo, rfl, rfl, ep, h⟩
       exact hR _ ej _ _ (((ek.bring 2).drop.bring 1).bring 1) ⟨(c8 el), em, en, eo, rfl, rfl, ep, h⟩
      ·refine f7 Tryd.call29 h b ?_
       rintro _ _ _ ia eq _ _ ⟨ib, rfl, rfl, h⟩
       refine f7 Tryd.call31 (h g0 c d e) ((eq.bring 2).bring 2) ?_
       rintro _ er _ ic es _ _ ⟨et, eu, ev, ew, rfl, rfl, ex, h⟩
       exact hR _ er _ _ (((es.bring 2).drop.bring 1).bring 1) ⟨(c8 et), eu, ev, ew, rfl, rfl, ex, h⟩
def a3O (x0 : Int) (x1 : Int) (x2 : Int) (H : Hp) (K : Bool → Hp → Prop) : Prop :=
 K ((decide (x0 ≤ x2)) && (decide (x2 ≤ x1))) H
theorem a6U (x0 : Int) (x1 : Int) (x2 : Int) {H : Hp} {K : Bool → Hp → Prop} (h : a3O x0 x1 x2 H K) : C0 x0 x1 x2 H K := by
 intro g2
 refine Ct.of fun w0 w ps0 H0 R E I hR => c0M ?_
 unfold a3O at h
 unfold F74
 refine c7 (l1 Tryd.isAgg21 I rfl) ?_
 refine c5 (a8g _ _ _ _ _ _) ?_
 refine c7 (Ld.g fun hb => by have a := hb; exact (l1 Tryd.isAgg21 I rfl)) ?_
 simp only [G0]
 refine c5 (Pu.g fun hb => by have a := hb; simp only [f8 a]; with_reducible exact (a8g _ _ _ _ _ _)) ?_
 refine c5 (B9 _ _) ?_
 exact hR _ H _ _ I ⟨((decide (x0 ≤ x2)) && (decide (x2 ≤ x1))), rfl, rfl, h⟩
def a3t (x0 : ByteArray) (H : Hp) (K : Bool → Hp → Prop) : Prop :=
 O6 x0 H (fun a b =>
 K (decide (32 < a)) b)
theorem a9c (x0 : ByteArray) {H : Hp} {K : Bool → Hp → Prop} (h : a3t x0 H K) : a3p x0 H K := by
 refine Ct.of fun w0 w ps0 H0 R E I hR => c0G ?_
 unfold a3t at h
 unfold F67
 refine f7 Tryd.call73 h I ?_
 rintro _ a _ d b _ _ ⟨c, rfl, rfl, h⟩
 refine c5 (O8 _ _ _ _ _ _) ?_
 exact hR _ a _ _ b ⟨(decide (32 < c)), rfl, rfl, h⟩
def J3 (H : Hp) (K : Int → Hp → Prop) : Prop :=
 K (-1) H
def Q2 (c1O : (List ByteArray)) (b2P : ByteArray) (a5U : Int) (Y9 : Int) (H : Hp) (n2 : Int → Hp → Prop) (K : Int → Hp → Prop) : Prop :=
 (Y9 < a5U →
 (0 : Int) ≤ Y9 ∧ ∃ a : ByteArray, (c1O)[(Y9 : Int).toNat]? = some a ∧
 (b2P = a →
 K Y9 H) ∧
 (¬ (b2P = a) →
 n2 (IntKind.wrap .i64 (Y9 + 1)) H)) ∧
 (¬ (Y9 < a5U) →
 J3 H K)
def S6 (x0 : (List ByteArray)) (x1 : ByteArray) (H : Hp) (K : Int → Hp → Prop) : Prop :=
 TL (0 : Int) H fun (s : Int) H n2 => Q2 x0 x1 (x0.length : Int) s H n2 K
theorem a4s (x0 : (List ByteArray)) (x1 : ByteArray) {H : Hp} {K : Int → Hp → Prop} (h : S6 x0 x1 H K) : S5 x0 x1 H K := by
 intro sx0 Fx0 hx0
 refine Ct.of fun w0 w ps0 H0 R E I hR => c0K ?_
 unfold S6 at h
 unfold F71
 have hj1 : ∀ (H : Hp) (w : World) (_ : Inv w0 ps0 H0 H [Fx0] w) (_ : J3 H K), b2H w R E := by
  intro H w I h
  unfold b2H
  intro _
  unfold J3 at h
  exact hR _ H _ _ I ⟨(-1), rfl, rfl, h⟩
 refine p8 fun j1 hx1 => ?_
 refine c5 (a2R Tryd.underlying26 hx0) ?_
 refine a2v (σ := Int) (fun Y9 => [(vi Y9)]) (fun Y9 => [Fx0]) h rfl I ?_
 rintro Y9 H f w next2 n2 b I h hn2
 simp only [List.map_cons, List.map_nil, List.cons.injEq, and_true] at b
 have e8 := b
 simp only [e8]
 unfold b5Y
 unfold Q2 at h
 refine c5 (v8 _ _ _ _ _ _) ?_
 refine d6 h (fun _ h => ?_) (fun _ h => ?_)
 ·obtain ⟨c, e, a, h⟩ := h
  obtain ⟨g, i, d, j⟩ := hx0.addr a
  refine c5 (b1T d _ _ _ _ c (hx0.lt c a)) ?_
  refine c7 (ld1 (v := (Value.string e)) Tryd.isAgg9 (hx0.atW I d a)) ?_
  refine c5 (X6 _ _ _ _ _) ?_
  refine d6 h (fun _ h => ?_) (fun _ h => ?_)
  ·exact hR _ H _ _ I ⟨Y9, rfl, rfl, h⟩
  ·refine c5 (s6 _ _ _ _ _ _) ?_
   exact hn2 (IntKind.wrap .i64 (Y9 + 1)) _ _ h I
 ·exact hx1 _ _ (hj1 H _ I h)
def O1 (b0D : Int) (b0E : ByteArray) (a : (List d5)) (b : m6) (H : Hp) (K : ByteArray → Int → Hp → Prop) : Prop :=
 K b0E b0D H
def a1b (b6S : (Option Nat)) (a9Z : (List d5)) (b0a : Int) (c : m6) (a5U : Int) (a0u : ByteArray) (M9 : Int) (H : Hp) (n2 : (Int × ByteArray × Int) → Hp → Prop) (K : ByteArray → Int → Hp → Prop) : Prop :=
 (M9 < b0a →
 (0 : Int) ≤ M9 ∧ ∃ a : d5, (a9Z)[(M9 : Int).toNat]? = some a ∧
 ∃ b : List (ByteArray × Int), MapH H (fun s : ByteArray => Value.string s) (fun n : Int => Value.int .i64 n) b6S b ∧
 (((lk a.fname b).getD 0) = a.fas →
 n2 (a5U, a0u, (IntKind.wrap .i64 (M9 + 1))) H) ∧
 (¬ (((lk a.fname b).getD 0) = a.fas) →
 (((lk a.fname b).getD 0) = 0 →
 O1 63 a.fname a9Z c H K) ∧
 (¬ (((lk a.fname b).getD 0) = 0) →
 O1 64 a.fname a9Z c H K))) ∧
 (¬ (M9 < b0a) →
 O1 a5U a0u a9Z c H K)
def a2k (x0 : m6) (H : Hp) (K : ByteArray → Int → Hp → Prop) : Prop :=
 a2g x0 H (fun b c =>
 (¬ (b = 0) →
 K ⟨#[]⟩ b c) ∧
 (b = 0 →
 a3B x0.a1o c (fun f g a d =>
 (¬ (a = 0) →
 K g a d) ∧
 (a = 0 →
 J1 (g8.mk (Sl.mk none 0 0)) [] x0.a1w d (fun j e i =>
 TL ((a, ⟨#[]⟩, 0) : Int × ByteArray × Int) i fun (s : Int × ByteArray × Int) H n2 => a1b f e (e.length : Int) x0 s.1 s.2.1 s.2.2 H n2 K)))))
theorem a8a (x0 : m6) {H : Hp} {K : ByteArray → Int → Hp → Prop} (h : a2k x0 H K) : a4k x0 H K := by
 refine Ct.of fun w0 w ps0 H0 R E I hR => b9P ?_
 unfold a2k at h
 unfold F23
 refine A5 I (cs := (p9 x0)) rfl fun j ad k ae => ?_
 refine c7 (lW Tryd.isAgg41 Tryd.sizeOf41 rfl k) ?_
 refine f7 Tryd.call41 h k ?_
 rintro _ u _ af d _ _ ⟨v, rfl, rfl, h⟩
 refine c5 (J9 _ _ _ _ _ _) ?_
 refine a7d h (fun _ h => ?_) (fun _ h => ?_)
 ·exact hR _ u _ _ d.drop ⟨⟨#[]⟩, v, rfl, rfl, h⟩
 ·refine c5 a7o ?_
  refine c7 (l1 Tryd.isAgg27 d rfl) ?_
  refine f7 Tryd.call42 h d ?_
  rintro _ y _ ag l _ _ ⟨ah, m, n, rfl, rfl, h⟩
  refine c5 (j7 _ _ _ rfl) ?_
  refine c5 (j7 _ _ (Value.string m) rfl) ?_
  refine c5 (j7 _ _ (vi n) rfl) ?_
  refine c5 (J9 _ _ _ _ _ _) ?_
  refine a7d h (fun _ h => ?_) (fun _ h => ?_)
  ·exact hR _ y _ _ l.drop ⟨m, n, rfl, rfl, h⟩
  ·refine c5 (b4g ) ?_
   refine A5 l (cs := [(Value.slice none 0 0)]) rfl fun f ai o aj => ?_
   refine c5 a2V ?_
   refine c7 (l1 Tryd.isAgg37 (o.bring 1) rfl) ?_
   refine f7 Tryd.call43 (h f (Sl.mk none 0 0) ([]) (RowL.nil (e := 106) a1Z a2b)) (o.nil.bring 1) ?_
   rintro _ _ _ ak p _ _ ⟨al, aa, q, r, rfl, rfl, c, h⟩
   have hj1 : ∀ (b0D : Int) (b0E : ByteArray) (H : Hp) (w : World) (_ : Inv w0 ps0 H0 H [bx f 103 [(vs q)], bx j 41 (p9 x0), r] w) (_ : O1 b0D b0E aa x0 H K), b2f (vi b0D) (Value.string b0E) w R E := by
    intro b0D b0E H w I h
    unfold b2f
    intro _
    unfold O1 at h
    exact hR _ H _ _ I.drop.drop.drop ⟨b0E, b0D, rfl, rfl, h⟩
   refine p8 fun j1 hx1 => ?_
   refine c5 (p5 _) ?_
   refine c5 T5 ?_
   refine c7 (l1 Tryd.isAgg101 p rfl) ?_
   refine c5 (a2R Tryd.underlying101 c) ?_
   refine a2v (σ := Int × ByteArray × Int) (fun (a5U, a0u, M9) => [(vi a5U), (Value.string a0u), (vi M9)]) (fun (a5U, a0u, M9) => [bx f 103 [(vs q)], bx j 41 (p9 x0), r]) h rfl (((p.bring 1).bring 2).bring 2) ?_
   rintro ⟨a5U, a0u, M9⟩ H am w next2 n2 g I h hn2
   dsimp only at g I h
   simp only [List.map_cons, List.map_nil, List.cons.injEq, and_true] at g
   obtain ⟨e7, e9, e39⟩ := g
   simp only [e7, e9, e39]
   unfold b5E
   unfold a1b at h
   refine c5 (v8 _ _ _ _ _ _) ?_
   refine d6 h (fun _ h => ?_) (fun _ h => ?_)
   ·obtain ⟨s, b, i, h⟩ := h
    obtain ⟨an, ao, t, ap⟩ := c.addr i
    refine c5 (b5r t _ _ _ _ s (c.lt s i)) ?_
    refine c7 (ldA (vs := (r5 b)) Tryd.isAgg106 Tryd.sizeOf106 rfl (c.atW (I.bring 2) t i)) ?_
    refine o3 I Tryd.zeroValue106 (cs := [(Value.string ⟨#[]⟩), (vi 0)]) rfl fun aq ar ab au => ?_
    refine o8 ab Tryd.sizeOf106 (vs := (r5 b)) fun av a aw => ?_
    refine c5 a6v ?_
    refine c7 (l1 Tryd.isAgg9 a rfl) ?_
    obtain ⟨ax, ac, h⟩ := h
    refine b6N (keyS Tryd.underlying9) Tryd.underlying57 (z := 0) Tryd.zeroValue3 a ac b.fname ?_
    refine c5 b3u ?_
    refine c7 (l1 Tryd.isAgg3 a rfl) ?_
    refine c5 (f9 _ _ _ _ _ _) ?_
    refine d6 h (fun _ h => ?_) (fun _ h => ?_)
    ·refine c5 (s6 _ _ _ _ _ _) ?_
     exact hn2 (a5U, a0u, (IntKind.wrap .i64 (M9 + 1))) _ _ h (((a.drop.bring 2).bring 2).bring 2)
    ·refine c5 (f9 _ _ _ _ _ _) ?_
     refine d6 h (fun _ h => ?_) (fun _ h => ?_)
     ·refine c5 a6v ?_
      refine c7 (l1 Tryd.isAgg9 a rfl) ?_
      exact hx1 _ _ (hj1 63 b.fname H _ (((a.drop.bring 2).bring 2).bring 2) h)
     ·refine c5 a6v ?_
      refine c7 (l1 Tryd.isAgg9 a rfl) ?_
      exact hx1 _ _ (hj1 64 b.fname H _ (((a.drop.bring 2).bring 2).bring 2) h)
   ·exact hx1 _ _ (hj1 a5U a0u H _ (((I.bring 2).bring 2).bring 2) h)
def a0H (x0 : M7) (H : Hp) (K : Bool → Hp → Prop) : Prop :=
 K ((decide (0 ≤ x0.P6.K0)) && (decide (x0.P6.K0 ≤ 2147483647))) H
theorem a6l (x0 : M7) {H : Hp} {K : Bool → Hp → Prop} (h : a0H x0 H K) : a3l x0 H K := by
 refine Ct.of fun w0 w ps0 H0 R E I hR => c0N ?_
 unfold a0H at h
 unfold F91
 refine A5 I (cs := (g9 x0.P6)) rfl fun c d b e => ?_
 refine c5 a6A ?_
 refine c5 a2Y ?_
 refine c7 (l1 Tryd.isAgg3 b rfl) ?_
 refine c5 (a3Q _ _ _ _ _ _) ?_
 refine c5 (Pu.g fun hb => by have a := hb; with_reducible exact a6A) ?_
 refine c5 (Pu.g fun hb => by have a := hb; simp only [f8 a]; with_reducible exact a2Y) ?_
 refine c7 (Ld.g fun hb => by have a := hb; simp only [f8 a]; exact (l1 Tryd.isAgg3 b rfl)) ?_
 refine c5 (Pu.g fun hb => by have a := hb; simp only [f8 a]; with_reducible exact (a8g _ _ _ _ _ _)) ?_
 refine c5 (B9 _ _) ?_
 exact hR _ H _ _ b.drop ⟨((decide (0 ≤ x0.P6.K0)) && (decide (x0.P6.K0 ≤ 2147483647))), rfl, rfl, h⟩
def D5 (a5T : Bool) (b7N : Int) (a8N : Bool) (a : q5) (b : H9) (H : Hp) (K : Bool → Hp → Prop) : Prop :=
 (a8N = true →
 K (a5T && (decide (a.fexprs = 0 ∧ a.fconds = 1))) H) ∧
 (a8N = false →
 (b7N = 7 →
 K (a5T && (decide (a.fexprs = 0 ∧ a.fconds = 0))) H) ∧
 (¬ (b7N = 7) →
 K false H))
def a0I (x0 : H9) (H : Hp) (K : Bool → Hp → Prop) : Prop :=
 (x0.d9.d4 = 1 →
 K ((!(decide (0 < (IntKind.wrap .i64 ((x0.d9.G9.n : Int) + (x0.d9.H7.n : Int)))))) && (decide ((x0.d9.i8.n : Int) = 1 ∧ (x0.d9.q9.n : Int) = 0))) H) ∧
 (¬ (x0.d9.d4 = 1) →
 (x0.d9.d4 = 2 →
 K ((!(decide (0 < (IntKind.wrap .i64 ((x0.d9.G9.n : Int) + (x0.d9.H7.n : Int)))))) && (decide ((x0.d9.i8.n : Int) = 2 ∧ (x0.d9.q9.n : Int) = 0))) H) ∧
 (¬ (x0.d9.d4 = 2) →
 (x0.d9.d4 = 3 →
 K ((decide (x0.d9.g7 = ⟨#[]⟩)) && (decide ((x0.d9.i8.n : Int) = 0 ∧ (x0.d9.q9.n : Int) = 1))) H) ∧
 (¬ (x0.d9.d4 = 3) →
 (x0.d9.d4 = 4 →
 K (((decide (x0.d9.g7 = ⟨#[]⟩)) && (decide ((x0.d9.H7.n : Int) = 0))) && (decide ((x0.d9.i8.n : Int) = 0 ∧ (x0.d9.q9.n : Int) = 1))) H) ∧
 (¬ (x0.d9.d4 = 4) →
 (x0.d9.d4 = 5 →
 D5 ((decide (x0.d9.g7 = ⟨#[]⟩)) && (!(decide (0 < (IntKind.wrap .i64 ((x0.d9.G9.n : Int) + (x0.d9.H7.n : Int))))))) x0.d9.d4 (decide (x0.d9.d4 = 5)) (q5.mk (x0.d9.i8.n : Int) (x0.d9.q9.n : Int)) x0 H K) ∧
 (¬ (x0.d9.d4 = 5) →
 D5 ((decide (x0.d9.g7 = ⟨#[]⟩)) && (!(decide (0 < (IntKind.wrap .i64 ((x0.d9.G9.n : Int) + (x0.d9.H7.n : Int))))))) x0.d9.d4 (decide (x0.d9.d4 = 6)) (q5.mk (x0.d9.i8.n : Int) (x0.d9.q9.n : Int)) x0 H K)))))
theorem a6m (x0 : H9) {H : Hp} {K : Bool → Hp → Prop} (h : a0I x0 H K) : a0E x0 H K := by
 refine Ct.of fun w0 w ps0 H0 R E I hR => c0P ?_
 unfold a0I at h
 unfold F93
 refine A5 I (cs := (m5 x0.d9)) rfl fun e i c j => ?_
 refine c5 D3 ?_
 refine c5 a1z ?_
 refine c7 (l1 Tryd.isAgg37 c rfl) ?_
 refine c5 (Z8 _ _ _) ?_
 refine c5 D3 ?_
 refine c5 a2W ?_
 refine c7 (l1 Tryd.isAgg37 c rfl) ?_
 refine c5 (Z8 _ _ _) ?_
 refine c5 (s6 _ _ _ _ _ _) ?_
 refine c5 (O8 _ _ _ _ _ _) ?_
 refine c5 D3 ?_
 refine c5 a3T ?_
 refine c7 (l1 Tryd.isAgg23 c rfl) ?_
 refine c5 (a1v _ _ _) ?_
 refine c5 D3 ?_
 refine c5 a1B ?_
 refine c7 (l1 Tryd.isAgg36 c rfl) ?_
 refine c5 (a4F _ _ _) ?_
 refine c5 (a0d _ _) ?_
 refine o3 c Tryd.zeroValue175 (cs := [(vi 0), (vi 0)]) rfl fun d k f l => ?_
 refine o8 f Tryd.sizeOf175 (vs := [(vi (x0.d9.i8.n : Int)), (vi (x0.d9.q9.n : Int))]) fun m b p => ?_
 refine c5 D3 ?_
 refine c5 a0R ?_
 refine c7 (l1 Tryd.isAgg9 (b.bring 1) rfl) ?_
 refine c5 (X6 _ _ _ _ _) ?_
 simp only [G0]
 refine c5 (Pu.g fun hb => by have a := hb; simp only [f8 a]; with_reducible exact (N6 _)) ?_
 refine c5 (B9 _ _) ?_
 refine c5 D3 ?_
 refine c5 a3S ?_
 refine c7 (l1 Tryd.isAgg3 (b.bring 1) rfl) ?_
 refine c5 (f9 _ _ _ _ _ _) ?_
 refine d6 h (fun _ h => ?_) (fun _ h => ?_)
 ·refine c5 (N6 _) ?_
  refine c7 (Ld.g fun hb => by have a := hb; exact (ldA Tryd.isAgg175 Tryd.sizeOf175 rfl (b.at1 (o := 0) (vs := [(vi (x0.d9.i8.n : Int)), (vi (x0.d9.q9.n : Int))]) (nb rfl) rfl))) ?_
  refine c5 (Pu.g fun hb => by have a := hb; with_reducible exact (a0d _ _)) ?_
  refine c5 (Pu.g fun hb => by have a := hb; simp only [f8 a]; with_reducible exact (a3M _ _ _ _ _ _)) ?_
  refine c5 (B9 _ _) ?_
  exact hR _ H _ _ b.drop.drop ⟨((!(decide (0 < (IntKind.wrap .i64 ((x0.d9.G9.n : Int) + (x0.d9.H7.n : Int)))))) && (decide ((x0.d9.i8.n : Int) = 1 ∧ (x0.d9.q9.n : Int) = 0))), rfl, rfl, h⟩
 ·refine c5 (f9 _ _ _ _ _ _) ?_
  refine d6 h (fun _ h => ?_) (fun _ h => ?_)
  ·refine c5 (N6 _) ?_
   refine c7 (Ld.g fun hb => by have a := hb; exact (ldA Tryd.isAgg175 Tryd.sizeOf175 rfl (b.at1 (o := 0) (vs := [(vi (x0.d9.i8.n : Int)), (vi (x0.d9.q9.n : Int))]) (nb rfl) rfl))) ?_
   refine c5 (Pu.g fun hb => by have a := hb; with_reducible exact (a0d _ _)) ?_
   refine c5 (Pu.g fun hb => by have a := hb; simp only [f8 a]; with_reducible exact (a3M _ _ _ _ _ _)) ?_
   refine c5 (B9 _ _) ?_
   exact hR _ H _ _ b.drop.drop ⟨((!(decide (0 < (IntKind.wrap .i64 ((x0.d9.G9.n : Int) + (x0.d9.H7.n : Int)))))) && (decide ((x0.d9.i8.n : Int) = 2 ∧ (x0.d9.q9.n : Int) = 0))), rfl, rfl, h⟩
  ·refine c5 (f9 _ _ _ _ _ _) ?_
   refine d6 h (fun _ h => ?_) (fun _ h => ?_)
   ·refine c5 D3 ?_
    refine c5 a0R ?_
    refine c7 (l1 Tryd.isAgg9 (b.bring 1) rfl) ?_
    refine c5 (X6 _ _ _ _ _) ?_
    refine c7 (Ld.g fun hb => by have a := hb; exact (ldA Tryd.isAgg175 Tryd.sizeOf175 rfl (b.at1 (o := 0) (vs := [(vi (x0.d9.i8.n : Int)), (vi (x0.d9.q9.n : Int))]) (nb rfl) rfl))) ?_
    refine c5 (Pu.g fun hb => by have a := hb; with_reducible exact (a0d _ _)) ?_
    refine c5 (Pu.g fun hb => by have a := hb; simp only [f8 a]; with_reducible exact (a3M _ _ _ _ _ _)) ?_
    refine c5 (B9 _ _) ?_
    exact hR _ H _ _ b.drop.drop ⟨((decide (x0.d9.g7 = ⟨#[]⟩)) && (decide ((x0.d9.i8.n : Int) = 0 ∧ (x0.d9.q9.n : Int) = 1))), rfl, rfl, h⟩
   ·refine c5 (f9 _ _ _ _ _ _) ?_
    refine d6 h (fun _ h => ?_) (fun _ h => ?_)
    ·refine c5 D3 ?_
     refine c5 a0R ?_
     refine c7 (l1 Tryd.isAgg9 (b.bring 1) rfl) ?_
     refine c5 (X6 _ _ _ _ _) ?_
     refine c5 (Pu.g fun hb => by have a := hb; with_reducible exact D3) ?_
     refine c5 (Pu.g fun hb => by have a := hb; simp only [f8 a]; with_reducible exact a2W) ?_
     refine c7 (Ld.g fun hb => by have a := hb; simp only [f8 a]; exact (l1 Tryd.isAgg37 (b.bring 1) rfl)) ?_
     refine c5 (Pu.g fun hb => by have a := hb; simp only [f8 a]; with_reducible exact (Z8 _ _ _)) ?_
     refine c5 (Pu.g fun hb => by have a := hb; simp only [f8 a]; with_reducible exact (f9 _ _ _ _ _ _)) ?_
     refine c5 (B9 _ _) ?_
     refine c7 (Ld.g fun hb => by have a := hb; exact (ldA Tryd.isAgg175 Tryd.sizeOf175 rfl (b.at1 (o := 0) (vs := [(vi (x0.d9.i8.n : Int)), (vi (x0.d9.q9.n : Int))]) (nb rfl) rfl))) ?_
     refine c5 (Pu.g fun hb => by have a := hb; with_reducible exact (a0d _ _)) ?_
     refine c5 (Pu.g fun hb => by have a := hb; simp only [f8 a]; with_reducible exact (a3M _ _ _ _ _ _)) ?_
     refine c5 (B9 _ _) ?_
     exact hR _ H _ _ b.drop.drop ⟨(((decide (x0.d9.g7 = ⟨#[]⟩)) && (decide ((x0.d9.H7.n : Int) = 0))) && (decide ((x0.d9.i8.n : Int) = 0 ∧ (x0.d9.q9.n : Int) = 1))), rfl, rfl, h⟩
    ·have hj1 : ∀ (a8N : Bool) (H : Hp) (w : World) (_ : Inv w0 ps0 H0 H [bx d 175 [(vi (q5.mk (x0.d9.i8.n : Int) (x0.d9.q9.n : Int)).fexprs), (vi (q5.mk (x0.d9.i8.n : Int) (x0.d9.q9.n : Int)).fconds)], bx e 140 (m5 x0.d9)] w) (_ : D5 ((decide (x0.d9.g7 = ⟨#[]⟩)) && (!(decide (0 < (IntKind.wrap .i64 ((x0.d9.G9.n : Int) + (x0.d9.H7.n : Int))))))) x0.d9.d4 a8N (q5.mk (x0.d9.i8.n : Int) (x0.d9.q9.n : Int)) x0 H K), b2J (Value.pointer (some ⟨d, 0, none⟩)) (Value.bool ((decide (x0.d9.g7 = ⟨#[]⟩)) && (!(decide (0 < (IntKind.wrap .i64 ((x0.d9.G9.n : Int) + (x0.d9.H7.n : Int)))))))) (vi x0.d9.d4) (Value.bool a8N) w R E := by
      intro a8N H w I h
      unfold b2J
      intro _
      unfold D5 at h
      refine o5 h (fun _ h => ?_) (fun _ h => ?_)
      ·refine c7 (Ld.g fun hb => by have a := hb; exact (ldA Tryd.isAgg175 Tryd.sizeOf175 rfl (I.at1 (o := 0) (vs := [(vi (q5.mk (x0.d9.i8.n : Int) (x0.d9.q9.n : Int)).fexprs), (vi (q5.mk (x0.d9.i8.n : Int) (x0.d9.q9.n : Int)).fconds)]) (nb rfl) rfl))) ?_
       refine c5 (Pu.g fun hb => by have a := hb; with_reducible exact (a0d _ _)) ?_
       refine c5 (Pu.g fun hb => by have a := hb; simp only [f8 a]; with_reducible exact (a3M _ _ _ _ _ _)) ?_
       refine c5 (B9 _ _) ?_
       exact hR _ H _ _ I.drop.drop ⟨(((decide (x0.d9.g7 = ⟨#[]⟩)) && (!(decide (0 < (IntKind.wrap .i64 ((x0.d9.G9.n : Int) + (x0.d9.H7.n : Int))))))) && (decide ((q5.mk (x0.d9.i8.n : Int) (x0.d9.q9.n : Int)).fexprs = 0 ∧ (q5.mk (x0.d9.i8.n : Int) (x0.d9.q9.n : Int)).fconds = 1))), rfl, rfl, h⟩
      ·refine c5 (f9 _ _ _ _ _ _) ?_
       refine d6 h (fun _ h => ?_) (fun _ h => ?_)
       ·refine c7 (Ld.g fun hb => by have a := hb; exact (ldA Tryd.isAgg175 Tryd.sizeOf175 rfl (I.at1 (o := 0) (vs := [(vi (q5.mk (x0.d9.i8.n : Int) (x0.d9.q9.n : Int)).fexprs), (vi (q5.mk (x0.d9.i8.n : Int) (x0.d9.q9.n : Int)).fconds)]) (nb rfl) rfl))) ?_
        refine c5 (Pu.g fun hb => by have a := hb; with_reducible exact (b4l )) ?_
        refine c5 (Pu.g fun hb => by have a := hb; simp only [f8 a]; with_reducible exact (a3M _ _ _ _ _ _)) ?_
        refine c5 (B9 _ _) ?_
        exact hR _ H _ _ I.drop.drop ⟨(((decide (x0.d9.g7 = ⟨#[]⟩)) && (!(decide (0 < (IntKind.wrap .i64 ((x0.d9.G9.n : Int) + (x0.d9.H7.n : Int))))))) && (decide ((q5.mk (x0.d9.i8.n : Int) (x0.d9.q9.n : Int)).fexprs = 0 ∧ (q5.mk (x0.d9.i8.n : Int) (x0.d9.q9.n : Int)).fconds = 0))), rfl, rfl, h⟩
       ·exact hR _ H _ _ I.drop.drop ⟨false, rfl, rfl, h⟩
     refine p8 fun j1 hx1 => ?_
     refine c5 (f9 _ _ _ _ _ _) ?_
     refine d6 h (fun _ h => ?_) (fun _ h => ?_)
     ·exact hx1 _ _ (hj1 (decide (x0.d9.d4 = 5)) H _ ((b.bring 1).bring 1) h)
     ·refine c5 (f9 _ _ _ _ _ _) ?_
      exact hx1 _ _ (hj1 (decide (x0.d9.d4 = 6)) H _ ((b.bring 1).bring 1) h)
def a1L (x0 : o9) (H : Hp) (K : d2 → Hp → Prop) : Prop :=
 K (d2.C8 (I0.mk x0)) H
theorem a7y (x0 : o9) {H : Hp} {K : d2 → Hp → Prop} (h : a1L x0 H K) : a4a x0 H K := by
 refine Ct.of fun w0 w ps0 H0 R E I hR => c0S ?_
 unfold a1L at h
 unfold F96
 refine A5 I (cs := (l7 x0)) rfl fun b c a d => ?_
 refine c7 (lW Tryd.isAgg89 Tryd.sizeOf89 rfl a) ?_
 refine c5 (b1U _ _ _ _ _ _ _ _) ?_
 refine c5 (b0x (I0.mk x0)) ?_
 exact hR _ H _ _ a.drop ⟨(d2.C8 (I0.mk x0)), rfl, rfl, h⟩
def t6 (Q8 : (List d2)) (H : Hp) (K : Sl → Hp → Prop) : Prop :=
 ∀ (B7 : Sl) (a : Hp), Hle H a → SlH a 1 m8 B7 Q8 → B7.n ≤ B7.c →
 K B7 a
def t7 (Y9 : Sl) (a0u : Int) (r7 : (List d2)) (o7 : Int) (H : Hp) (n2 : ((List d2) × Int) → Hp → Prop) (K : Sl → Hp → Prop) : Prop :=
 (o7 < a0u →
 (0 : Int) ≤ o7 ∧ (o7 : Int) < Y9.n ∧ ∃ a : o9, EltH H Y9 o7 4 (l7 a) ∧
 a4a a H (fun b c =>
 (r7.length + ([b] : List d2).length) * 17 ≤ 140737488355328 ∧
 n2 ((r7 ++ [b]), (IntKind.wrap .i64 (o7 + 1))) c)) ∧
 (¬ (o7 < a0u) →
 t6 r7 H K)
def B2 (x0 : Sl) (H : Hp) (K : Sl → Hp → Prop) : Prop :=
 TL (([], 0) : (List d2) × Int) H fun (s : (List d2) × Int) H n2 => t7 x0 (x0.n : Int) s.1 s.2 H n2 K
theorem S7 (x0 : Sl) {H : Hp} {K : Sl → Hp → Prop} (h : B2 x0 H K) : v6 x0 H K := by
 refine Ct.of fun w0 w ps0 H0 R E I hR => c0R ?_
 unfold B2 at h
 unfold F95
 have hj1 : ∀ (Q8 : (List d2)) (B7 : Sl) (Fs5j1 : Frag) (H : Hp) (w : World) (_ : RowL 126 1 m8 B7 Q8 Fs5j1) (_ : Inv w0 ps0 H0 H [Fs5j1] w) (_ : t6 Q8 H K), b2K (vs B7) w R E := by
  intro Q8 B7 Fs5j1 H w a7z I h
  unfold b2K
  intro _
  unfold t6 at h
  obtain ⟨j, q, r, t, u⟩ := Inv.freezeC I a7z (by decide)
  replace h := h B7 j r t u
  exact hR _ j _ _ q ⟨B7, rfl, rfl, h⟩
 refine p8 fun j1 hx1 => ?_
 refine c5 (a4F _ _ _) ?_
 obtain ⟨f, d, v, y⟩ := h
 refine D1 (J := fun n l w => ∃ (s : (List d2) × Int) (H : Hp) (Q9 : Sl) (Fs5l2 : Frag) , n = d s ∧ l = (match s with | (r7, o7) => [(vs Q9), (vi o7)]) ∧ (match s with | (r7, o7) => RowL 126 1 m8 Q9 r7 Fs5l2) ∧ (match s with | (r7, o7) => Inv w0 ps0 H0 H [Fs5l2] w) ∧ f s H) ⟨_, ([], 0), H, (Sl.mk none 0 0), [], rfl, rfl, (RowL.nil E8 J7), I.nil, v⟩ ?_
 rintro am an w next2 ⟨⟨r7, o7⟩, H, Q9, Fs5l2, rfl, g, a1M, I, z⟩ hn2
 dsimp only at g I a1M
 simp only [List.map_cons, List.map_nil, List.cons.injEq, and_true] at g
 obtain ⟨e5, e10⟩ := g
 simp only [e5, e10]
 obtain ⟨n2, hm2, h⟩ : ∃ n2 : ((List d2) × Int) → Hp → Prop, (∀ s' H', n2 s' H' → f s' H' ∧ d s' < d (r7, o7)) ∧ t7 x0 (x0.n : Int) r7 o7 H n2 K := ⟨_, fun _ _ h => h, y (r7, o7) H (fun s' H' => f s' H' ∧ d s' < d (r7, o7)) z (fun _ _ a b => ⟨a, b⟩)⟩
 unfold b6a
 unfold t7 at h
 refine c5 (v8 _ _ _ _ _ _) ?_
 refine d6 h (fun _ h => ?_) (fun _ h => ?_)
 ·obtain ⟨aa, ab, k, i, h⟩ := h
  obtain ⟨ao, ap, ac, i⟩ := i
  refine c5 (W0 ac _ _ _ _ aa ab) ?_
  refine c7 (ldA (vs := (l7 k)) Tryd.isAgg89 Tryd.sizeOf89 rfl (I.atH i)) ?_
  refine o3 I Tryd.zeroValue89 (cs := [(vi 0), (vi 0), (Value.slice none 0 0), (Value.slice none 0 0)]) rfl fun aq ar ad au => ?_
  refine o8 ad Tryd.sizeOf89 (vs := (l7 k)) fun av m aw => ?_
  refine c7 (lW Tryd.isAgg89 Tryd.sizeOf89 rfl m) ?_
  refine f7 Tryd.call96 h m ?_
  rintro _ ae _ ax af _ _ ⟨o, rfl, rfl, h⟩
  refine X8 (e := 126) (c := m8) (xs := [o]) af (a7r _) rfl rfl E8 J7 (nb rfl) fun ay az ba ag p bb => ?_
  obtain ⟨ah, h⟩ := h
  refine a6J (s := Q9) (xs := r7) (p.bring 2) a1M (ag.srcO ((p.bring 2).bring 1)) ah fun ai aj bc ak al bd => ?_
  refine c5 (s6 _ _ _ _ _ _) ?_
  exact hn2 _ _ _ (hm2 _ _ h).2 ⟨((r7 ++ [o]), (IntKind.wrap .i64 (o7 + 1))), ae, ai, aj, rfl, rfl, ak, ((al.bring 1).drop.bring 1).drop, (hm2 _ _ h).1⟩
 ·exact hx1 _ _ (hj1 r7 Q9 Fs5l2 H _ a1M I h)
def a0v (x0 : H9) (H : Hp) (K : Sl → Hp → Prop) : Prop :=
 v6 x0.d9.q9 H (fun d e =>
 q7 x0.d9.i8 e (fun f g =>
 q6 x0.d9.G9 g (fun i j =>
 q6 x0.d9.H7 j (fun k l =>
 ∀ (a : Sl) (b : Hp), Hle l b → SlH b 1 csl a [d, f, i, k] → a.n ≤ a.c →
 u7 a b (fun m o =>
 K m o)))))
theorem a5V (x0 : H9) {H : Hp} {K : Sl → Hp → Prop} (h : a0v x0 H K) : a2E x0 H K := by
 refine Ct.of fun w0 w ps0 H0 R E I hR => c0Q ?_
 unfold a0v at h
 unfold F94
 refine A5 I (cs := (m5 x0.d9)) rfl fun ad ae i af => ?_
 refine L5 i fun ag a => ?_
 refine d7 D3 ?_
 refine d7 a1B ?_
 refine d7 D3 ?_
 refine d7 a3T ?_
 refine d7 D3 ?_
 refine d7 a1z ?_
 refine d7 D3 ?_
 refine d7 a2W ?_
 refine o4 (l1 Tryd.isAgg36 a rfl) ?_
 refine o4 (l1 Tryd.isAgg23 a rfl) ?_
 refine o4 (l1 Tryd.isAgg37 a rfl) ?_
 refine o4 (l1 Tryd.isAgg37 a rfl) ?_
 refine f7 Tryd.call95 h a ?_
 rintro _ _ _ ah b _ d ⟨j, rfl, rfl, h⟩
 refine ⟨(d _ a.lt1 (Inv.L6 (Fi := []) a)), (d _ a.lt1 (Inv.L6 (Fi := []) a)), (d _ a.lt1 (Inv.L6 (Fi := []) a)), ?_⟩
 refine f7 Tryd.call97 h b ?_
 rintro _ _ _ ai f _ g ⟨k, rfl, rfl, h⟩
 refine ⟨(g _ b.lt1 (Inv.L6 (Fi := []) b)), (g _ b.lt1 (Inv.L6 (Fi := []) b)), ?_⟩
 refine f7 Tryd.call58 h f ?_
 rintro _ _ _ aj l _ m ⟨n, rfl, rfl, h⟩
 refine ⟨(m _ f.lt1 (Inv.L6 (Fi := []) f)), ?_⟩
 refine f7 Tryd.call58 h l ?_
 rintro _ _ _ ak o _ _ ⟨p, rfl, rfl, h⟩
 refine X8 (e := 123) (c := csl) (xs := [j, k, n, p]) o (b6P _ _ _ _ _ _ _ _ _ _ _ _) rfl rfl a8F a8G (nb rfl) fun q al am r s an => ?_
 obtain ⟨t, u, v, y, z⟩ := Inv.freezeC s r (by decide)
 replace h := h q t v y z
 refine f7 Tryd.call55 h u ?_
 rintro _ aa _ ao ab _ _ ⟨ac, rfl, rfl, h⟩
 exact hR _ aa _ _ ab.drop ⟨ac, rfl, rfl, h⟩
def a0w (x0 : C7) (H : Hp) (K : Sl → Hp → Prop) : Prop :=
 q7 x0.o0.z7 H (fun a b =>
 K a b)
theorem a5W (x0 : C7) {H : Hp} {K : Sl → Hp → Prop} (h : a0w x0 H K) : a2F x0 H K := by
 refine Ct.of fun w0 w ps0 H0 R E I hR => b8C ?_
 unfold a0w at h
 unfold c0W
 refine A5 I (cs := (i6 x0.o0)) rfl fun e f a g => ?_
 refine c5 Q5 ?_
 refine c5 a0S ?_
 refine c7 (l1 Tryd.isAgg23 a rfl) ?_
 refine f7 Tryd.call97 h a ?_
 rintro _ b _ i c _ _ ⟨d, rfl, rfl, h⟩
 exact hR _ b _ _ c.drop ⟨d, rfl, rfl, h⟩
end Go.Proofs.YtaokfhdinhimfaaDoor
