/- Typed formulas of the program's functions, and the theorems that the contracts follow from them; printed by lift.py off the code. -/
import Derived.Test.YtaokfhdinhimfaaDooryAV1
namespace Go.Proofs.YtaokfhdinhimfaaDoor
open Go.RowKit
set_option maxRecDepth 100000
set_option maxHeartbeats 2000000
def S7 (x0 : d2) (f : (List c8)) (x1 : i5) (H : Hp) (K : j8 → Bool → Hp → Prop) : Prop :=
 (x1.d5 = 1 →
 K (j8.mk (-1) x1.y8) true H) ∧
 (¬ (x1.d5 = 1) →
 ∃ a : i5, ((decide (x1.d5 = 5)) = true → (0 : Int) ≤ 0 ∧ (0 : Int) < x1.u7.n ∧ EltH H x1.u7 0 4 (f6 a)) ∧
 (((decide (x1.d5 = 5)) && (decide (a.d5 = 1))) = true →
 (0 : Int) ≤ 0 ∧ (0 : Int) < x1.u7.n ∧ ∃ b : i5, EltH H x1.u7 0 4 (f6 b) ∧
 K (j8.mk (-1) (IntKind.wrap .i64 (0 - b.y8))) true H) ∧
 (((decide (x1.d5 = 5)) && (decide (a.d5 = 1))) = false →
 (x1.d5 = 2 →
 ∃ c : List (ByteArray × Int), MapH H (fun s : ByteArray => Value.string s) (fun n : Int => Value.int .i64 n) x0.fvars c ∧
 K (j8.mk ((lk x1.d8 c).getD 0) 0) true H) ∧
 (¬ (x1.d5 = 2) →
 O2 H (fun d e =>
 K d false e))))
theorem a3F (x0 : d2) (j : (List c8)) (x1 : i5) {H : Hp} {K : j8 → Bool → Hp → Prop} (h : S7 x0 j x1 H K) : L8 x0 j x1 H K := by
 intro g0 ad ae af
 refine Ct.of fun w0 w ps0 H0 R E I hR => b6R ?_
 unfold S7 at h
 unfold F45
 refine C1 I (cs := (f6 x1)) rfl fun ag ah s ai => ?_
 refine q9 s Tryd.zeroValue44 (cs := [(vi 0), (vi 0)]) rfl fun aj ak c al => ?_
 refine c5 O0 ?_
 refine d3 (l1 Tryd.isAgg3 (c.bring 1) rfl) ?_
 refine c5 (f8 _ _ _ _ _ _) ?_
 refine d7 h (fun _ h => ?_) (fun _ h => ?_)
 ·refine c5 a3N ?_
  refine d3 (l1 Tryd.isAgg2 (c.bring 1) rfl) ?_
  refine c5 (a6m _ _) ?_
  refine s9 c Tryd.sizeOf44 (vs := [(vi (-1)), (vi x1.y8)]) fun am l an => ?_
  refine R9 Tryd.isAgg44 Tryd.sizeOf44 rfl l ?_
  exact hR _ H _ _ ((l.drop.drop.bring 1).bring 1) ⟨(j8.mk (-1) x1.y8), true, rfl, rfl, h⟩
 ·refine c5 O0 ?_
  refine d3 (l1 Tryd.isAgg3 (c.bring 1) rfl) ?_
  refine c5 (f8 _ _ _ _ _ _) ?_
  refine c5 (Pu.g fun hb => by have a := hb; with_reducible exact Z0) ?_
  refine d3 (Ld.g fun hb => by have a := hb; simp only [r7 a]; exact (l1 Tryd.isAgg23 (c.bring 1) rfl)) ?_
  obtain ⟨e, b, h⟩ := h
  obtain ⟨ao, ap, b⟩ := b4K b
  refine c5 (Pu.g fun hb => by have a := hb; simp only [r7 a]; with_reducible exact (Z4 (b hb).2.2.1 _ _ _ _ (b hb).1 (b hb).2.1)) ?_
  refine c5 (Pu.g fun hb => by have a := hb; simp only [r7 a]; with_reducible exact O0) ?_
  refine d3 (Ld.g fun hb => by have a := hb; simp only [r7 a]; exact (ld1 (v := (vi e.d5)) Tryd.isAgg3 ((c.atH (b hb).2.2.2).sub (k := 0) (n := 1) (nb rfl)))) ?_
  refine c5 (Pu.g fun hb => by have a := hb; simp only [r7 a]; with_reducible exact (f8 _ _ _ _ _ _)) ?_
  refine c5 (L2 _ _) ?_
  refine s7 h (fun _ h => ?_) (fun _ h => ?_)
  ·refine c5 Z0 ?_
   refine d3 (l1 Tryd.isAgg23 (c.bring 1) rfl) ?_
   obtain ⟨t, u, f, i, h⟩ := h
   obtain ⟨aq, ar, y, i⟩ := i
   refine c5 (Z4 y _ _ _ _ t u) ?_
   refine c5 a3N ?_
   refine d3 (ld1 (v := (vi f.y8)) Tryd.isAgg2 ((c.atH i).sub (k := 1) (n := 1) (nb rfl))) ?_
   refine c5 (b6h _ _) ?_
   refine c5 (a6m _ _) ?_
   refine s9 c Tryd.sizeOf44 (vs := [(vi (-1)), (vi (IntKind.wrap .i64 (0 - f.y8)))]) fun au m av => ?_
   refine R9 Tryd.isAgg44 Tryd.sizeOf44 rfl m ?_
   exact hR _ H _ _ ((m.drop.drop.bring 1).bring 1) ⟨(j8.mk (-1) (IntKind.wrap .i64 (0 - f.y8))), true, rfl, rfl, h⟩
  ·refine c5 O0 ?_
   refine d3 (l1 Tryd.isAgg3 (c.bring 1) rfl) ?_
   refine c5 (f8 _ _ _ _ _ _) ?_
   refine d7 h (fun _ h => ?_) (fun _ h => ?_)
   ·refine N7 c fun aw d => ?_
    refine f7 (m5 _) ?_
    refine f7 a5B ?_
    refine f7 a1u ?_
    refine o8 (l1 Tryd.isAgg57 (d.bring 2) rfl) ?_
    refine o8 (l1 Tryd.isAgg9 (d.bring 1) rfl) ?_
    obtain ⟨o, aa, h⟩ := h
    refine a5y (keyS Tryd.underlying9) Tryd.underlying57 (z := 0) Tryd.zeroValue3 d aa x1.d8 ?_
    refine f7 (a1Q _) ?_
    refine s9 d Tryd.sizeOf44 (vs := [(vi ((lk x1.d8 o).getD 0)), (vi 0)]) fun ax p ay => ?_
    refine R9 Tryd.isAgg44 Tryd.sizeOf44 rfl p ?_
    exact hR _ H _ _ ((p.drop.drop.bring 1).bring 1) ⟨(j8.mk ((lk x1.d8 o).getD 0) 0), true, rfl, rfl, h⟩
   ·refine d9 Tryd.call39 h c ?_
    rintro _ ab _ az ac _ _ ⟨q, rfl, rfl, h⟩
    refine s9 ac Tryd.sizeOf44 (vs := (m4 q)) fun ba r bb => ?_
    refine R9 Tryd.isAgg44 Tryd.sizeOf44 rfl r ?_
    exact hR _ ab _ _ ((r.drop.drop.bring 1).bring 1) ⟨q, false, rfl, rfl, h⟩
def a2K (x0 : Int) (H : Hp) (K : Int → Hp → Prop) : Prop :=
 (0 : Int) ≤ x0 ∧ (x0 : Int) < 11 ∧
 K (([0, 0, 0, 9, 10, 3, 4, 5, 6, 7, 8] : List Int).getD (x0 : Int).toNat 0) H
theorem a6n (x0 : Int) {H : Hp} {K : Int → Hp → Prop} (h : a2K x0 H K) : a0P x0 H K := by
 refine Ct.of fun w0 w ps0 H0 R E I hR => b6Y ?_
 unfold a2K at h
 unfold F52
 refine c5 (a3k _ _ _ _ _ _ _ _) ?_
 obtain ⟨a, b, h⟩ := h
 refine c5 (b1M _ _ _ _ _ _ _ _ _ _ _ _ _ a b) ?_
 exact hR _ H _ _ I ⟨(([0, 0, 0, 9, 10, 3, 4, 5, 6, 7, 8] : List Int).getD (x0 : Int).toNat 0), rfl, rfl, h⟩
def U4 (x0 : d2) (a : (List c8)) (x1 : Int) (H : Hp) (K : Int → d2 → (List c8) → Hp → Prop) : Prop :=
 K (IntKind.wrap .i64 ((x0.fc.u9.n : Int) + x1)) (d2.mk (C0.mk x0.fc.u9 (if (IntKind.wrap .i64 (x1 + 1)) > x0.fc.J7 then IntKind.wrap .i64 (x1 + 1) else x0.fc.J7) x0.fc.A7 x0.fc.A9 x0.fc.C2 (Sl.mk none 0 0)) x0.fvars x0.farrays) a H
theorem a3R (x0 : d2) (a : (List c8)) (x1 : Int) {H : Hp} {K : Int → d2 → (List c8) → Hp → Prop} (h : U4 x0 a x1 H K) : U2 x0 a x1 H K := by
 intro g0 c d e
 refine Ct.of fun w0 w ps0 H0 R E I hR => b6Z ?_
 unfold U4 at h
 unfold F53
 refine c5 (m5 _) ?_
 refine c5 E0 ?_
 refine c5 a5z ?_
 refine d3 (l1 Tryd.isAgg3 I rfl) ?_
 refine c5 (s8 _ _ _ _ _ _) ?_
 refine c5 (b2D _ _ _ _ _) ?_
 refine c5 (m5 _) ?_
 refine c5 E0 ?_
 refine c5 a5z ?_
 refine N8 I Tryd.sizeOf3 fun f b g => ?_
 refine c5 (m5 _) ?_
 refine c5 E0 ?_
 refine c5 a7T ?_
 refine d3 (l1 Tryd.isAgg26 b rfl) ?_
 refine c5 (a4H _ _ _) ?_
 refine c5 (s8 _ _ _ _ _ _) ?_
 exact hR _ H _ _ ((b.bring 1).bring 1) ⟨(IntKind.wrap .i64 ((x0.fc.u9.n : Int) + x1)), (d2.mk (C0.mk x0.fc.u9 (if (IntKind.wrap .i64 (x1 + 1)) > x0.fc.J7 then IntKind.wrap .i64 (x1 + 1) else x0.fc.J7) x0.fc.A7 x0.fc.A9 x0.fc.C2 (Sl.mk none 0 0)) x0.fvars x0.farrays), a, c, d, rfl, rfl, e, h⟩
def R4 (x0 : d2) (a : (List c8)) (x1 : j8) (x2 : Int) (H : Hp) (K : Int → Hp → Prop) : Prop :=
 ((x0.fc.u9.n : Int) ≤ x1.G1 →
 K (IntKind.wrap .i64 (x2 + 1)) H) ∧
 (¬ ((x0.fc.u9.n : Int) ≤ x1.G1) →
 K x2 H)
theorem a3o (x0 : d2) (b : (List c8)) (x1 : j8) (x2 : Int) {H : Hp} {K : Int → Hp → Prop} (h : R4 x0 b x1 x2 H K) : R1 x0 b x1 x2 H K := by
 intro g0 d e f
 refine Ct.of fun w0 w ps0 H0 R E I hR => b6U ?_
 unfold R4 at h
 unfold F48
 refine C1 I (cs := (m4 x1)) rfl fun g i c j => ?_
 refine N7 c fun k a => ?_
 refine f7 a7U ?_
 refine f7 (m5 _) ?_
 refine f7 E0 ?_
 refine f7 a7T ?_
 refine o8 (l1 Tryd.isAgg3 a rfl) ?_
 refine o8 (l1 Tryd.isAgg26 (a.bring 1) rfl) ?_
 refine f7 (a4H _ _ _) ?_
 refine f7 (a6v _ _ _ _ _ _) ?_
 refine d7 h (fun _ h => ?_) (fun _ h => ?_)
 ·refine c5 (s8 _ _ _ _ _ _) ?_
  exact hR _ H _ _ ((a.drop.bring 1).bring 1) ⟨(IntKind.wrap .i64 (x2 + 1)), rfl, rfl, h⟩
 ·exact hR _ H _ _ ((a.drop.bring 1).bring 1) ⟨x2, rfl, rfl, h⟩
def W1 (x0 : d2) (g : (List c8)) (x1 : Sl) (x2 : Int) (x3 : Int) (H : Hp) (K : j8 → j8 → Int → d2 → (List c8) → Hp → Prop) : Prop :=
 (0 : Int) ≤ 0 ∧ (0 : Int) < x1.n ∧ ∃ a : i5, EltH H x1 0 4 (f6 a) ∧
 E2 (c6 x0) g a x2 x3 H (fun b i c d e =>
 (0 : Int) ≤ 1 ∧ (1 : Int) < x1.n ∧ ∃ f : i5, EltH e x1 1 4 (f6 f) ∧
 R1 (c6 c) d b x3 e (fun j k =>
 E2 (c6 c) d f i j k (fun l m o p q =>
 K b l m (c6 o) p q)))
theorem a4l (x0 : d2) (k : (List c8)) (x1 : Sl) (x2 : Int) (x3 : Int) {H : Hp} {K : j8 → j8 → Int → d2 → (List c8) → Hp → Prop} (h : W1 x0 k x1 x2 x3 H K) : J8 x0 k x1 x2 x3 H K := by
 intro g0 o p q
 refine Ct.of fun w0 w ps0 H0 R E I hR => b6H ?_
 unfold W1 at h
 unfold F30
 refine q9 I Tryd.zeroValue44 (cs := [(vi 0), (vi 0)]) rfl fun r aw s ax => ?_
 refine q9 s Tryd.zeroValue44 (cs := [(vi 0), (vi 0)]) rfl fun t ay l az => ?_
 obtain ⟨u, v, y, e, h⟩ := h
 obtain ⟨ba, bb, z, e⟩ := e
 refine c5 (Z4 z _ _ _ _ u v) ?_
 refine d3 (ldA (vs := (f6 y)) Tryd.isAgg25 Tryd.sizeOf25 rfl (l.atH e)) ?_
 refine d9 Tryd.call47 (h g0 o p q) ((l.bring 3).bring 3) ?_
 rintro _ _ _ bc aa _ _ ⟨c, ab, ac, bd, f, g, rfl, rfl, m, h⟩
 refine c5 (g9 _ _ _ rfl) ?_
 refine c5 (g9 _ _ (vi ab) rfl) ?_
 refine s9 (aa.bring 3) Tryd.sizeOf44 (vs := (m4 c)) fun be ad bf => ?_
 refine N7 ad fun bg a => ?_
 obtain ⟨ae, af, ag, b, h⟩ := h
 obtain ⟨bh, bi, ah, b⟩ := b
 refine f7 (Z4 ah _ _ _ _ ae af) ?_
 refine o8 (ldA (vs := (f6 ag)) Tryd.isAgg25 Tryd.sizeOf25 rfl (a.atH b)) ?_
 refine o8 (lW Tryd.isAgg44 Tryd.sizeOf44 rfl a) ?_
 refine d9 Tryd.call48 (h g0 f g m) ((a.bring 2).bring 2) ?_
 rintro _ _ _ bj ai _ aj ⟨bk, rfl, rfl, h⟩
 refine ⟨(aj _ (a.b2E b) ((Inv.self (Fi := [bx g0 59 (i6 ac f), g]) (Fr := [bx r 44 (m4 c), bx t 44 [(vi 0), (vi 0)]]) ((a.bring 2).bring 2)).b1l b)), ?_⟩
 refine d9 Tryd.call47 (h g0 f g m) ((ai.bring 1).bring 1) ?_
 rintro _ ak _ bl al _ _ ⟨i, n, am, an, ao, ap, rfl, rfl, aq, h⟩
 refine f7 (g9 _ _ _ rfl) ?_
 refine f7 (g9 _ _ (vi n) rfl) ?_
 refine s9 (al.bring 3) Tryd.sizeOf44 (vs := (m4 i)) fun bm ar bn => ?_
 refine N7 ar fun bo d => ?_
 refine o8 (lW Tryd.isAgg44 Tryd.sizeOf44 rfl (d.bring 3)) ?_
 refine o8 (lW Tryd.isAgg44 Tryd.sizeOf44 rfl d) ?_
 refine s9 (d.bring 3) Tryd.sizeOf44 (vs := (m4 c)) fun bp au av => ?_
 refine ⟨(av _ (Inv.a9w (d.bring 3))), ?_⟩
 refine s9 (au.bring 1) Tryd.sizeOf44 (vs := (m4 i)) fun bq j br => ?_
 refine R9 Tryd.isAgg44 Tryd.sizeOf44 rfl (j.bring 1) ?_
 refine R9 Tryd.isAgg44 Tryd.sizeOf44 rfl j ?_
 exact hR _ ak _ _ ((j.drop.drop.bring 1).bring 1) ⟨c, i, n, (c6 am), an, ao, ap, rfl, rfl, aq, h⟩
def a0v (x0 : j9) (H : Hp) (K : c7 → Hp → Prop) : Prop :=
 K (c7.y6 (F1.mk x0)) H
theorem a5I (x0 : j9) {H : Hp} {K : c7 → Hp → Prop} (h : a0v x0 H K) : a2z x0 H K := by
 refine Ct.of fun w0 w ps0 H0 R E I hR => b7f ?_
 unfold a0v at h
 unfold F59
 refine C1 I (cs := (j7 x0)) rfl fun b c a d => ?_
 refine d3 (lW Tryd.isAgg39 Tryd.sizeOf39 rfl a) ?_
 refine c5 (a9N _ _ _ _ _ _ _ _ _ _ _ _ _ _) ?_
 refine c5 (a8u (F1.mk x0)) ?_
 exact hR _ H _ _ a.drop ⟨(c7.y6 (F1.mk x0)), rfl, rfl, h⟩
def u0 (b9g : Sl) (a8y : Int) (b9h : Sl) (b4P : Int) (b1X : Int) (H : Hp) (n4 : (Int × Int) → Hp → Prop) (K : Sl → Hp → Prop) : Prop :=
 n4 (a8y, (IntKind.wrap .i64 (b1X + 1))) H
def u1 (a7Y : (List c7)) (H : Hp) (K : Sl → Hp → Prop) : Prop :=
 ∀ (a3g : Sl) (a : Hp), Hle H a → SlH a 1 l7 a3g a7Y → a3g.n ≤ a3g.c →
 K a3g a
def u4 (b4Q : Sl) (b4R : Int) (a0w : (List c7)) (Z9 : Int) (H : Hp) (n3 : ((List c7) × Int) → Hp → Prop) (K : Sl → Hp → Prop) : Prop :=
 (Z9 < b4R →
 (0 : Int) ≤ Z9 ∧ (Z9 : Int) < b4Q.n ∧ ∃ b : Sl, EltH H b4Q Z9 1 [(vs b)] ∧
 ∃ a : List c7, SlH H 1 l7 b a ∧ (a0w.length + a.length) * 17 ≤ 140737488355328 ∧
 n3 ((a0w ++ a), (IntKind.wrap .i64 (Z9 + 1))) H) ∧
 (¬ (Z9 < b4R) →
 u1 a0w H K)
def u5 (b7F : Sl) (a0x : Int) (H : Hp) (K : Sl → Hp → Prop) : Prop :=
 E8 a0x H (fun a b =>
 TL ((a, 0) : (List c7) × Int) b fun (s : (List c7) × Int) H n3 => u4 b7F (b7F.n : Int) s.1 s.2 H n3 K)
def B3 (b7G : Sl) (b4e : Sl) (b1Y : Int) (a4V : Int) (a1x : Int) (H : Hp) (n4 : (Int × Int) → Hp → Prop) (K : Sl → Hp → Prop) : Prop :=
 (a1x < b1Y →
 (0 : Int) ≤ a1x ∧ (a1x : Int) < b4e.n ∧ ∃ a : Sl, EltH H b4e a1x 1 [(vs a)] ∧
 ((IntKind.wrap .i64 (a4V + (a.n : Int))) < 0 →
 False) ∧
 (¬ ((IntKind.wrap .i64 (a4V + (a.n : Int))) < 0) →
 u0 b7G (IntKind.wrap .i64 (a4V + (a.n : Int))) b4e b1Y a1x H n4 K)) ∧
 (¬ (a1x < b1Y) →
 u5 b7G a4V H K)
def B9 (x0 : Sl) (H : Hp) (K : Sl → Hp → Prop) : Prop :=
 TL ((0, 0) : Int × Int) H fun (s : Int × Int) H n4 => B3 x0 x0 (x0.n : Int) s.1 s.2 H n4 K
theorem V7 (x0 : Sl) {H : Hp} {K : Sl → Hp → Prop} (h : B9 x0 H K) : r6 x0 H K := by
 refine Ct.of fun w0 w ps0 H0 R E I hR => b7b ?_
 unfold B9 at h
 unfold F55
 have hj1 : ∀ (a0x : Int) (H : Hp) (w : World) (_ : Inv w0 ps0 H0 H [] w) (_ : u5 x0 a0x H K), b0f (vs x0) (vi a0x) w R E := by
  intro a0x H w I h
  unfold b0f
  intro _
  unfold u5 at h
  refine d9 Tryd.call62 h I ?_
  rintro _ m _ au o _ _ ⟨p, q, r, rfl, rfl, t, h⟩
  have hj2 : ∀ (a7Y : (List c7)) (a3g : Sl) (Fs6j2 : Frag) (H : Hp) (w : World) (_ : RowL 126 1 l7 a3g a7Y Fs6j2) (_ : Inv w0 ps0 H0 H [Fs6j2] w) (_ : u1 a7Y H K), b0e (vs a3g) w R E := by
   intro a7Y a3g Fs6j2 H w b8u I h
   unfold b0e
   intro _
   unfold u1 at h
   obtain ⟨j, u, y, z, aa⟩ := Inv.freezeC I b8u (by decide)
   replace h := h a3g j y z aa
   exact hR _ j _ _ u ⟨a3g, rfl, rfl, h⟩
  refine r5 fun j2 hx2 => ?_
  refine c5 (a7X _ _ _) ?_
  obtain ⟨d, c, ab, ac⟩ := h
  refine G5 (J := fun n l w => ∃ (s : (List c7) × Int) (H : Hp) (a7Z : Sl) (Fs6l3 : Frag) , n = c s ∧ l = (match s with | (a0w, Z9) => [(vs a7Z), (vi Z9)]) ∧ (match s with | (a0w, Z9) => RowL 126 1 l7 a7Z a0w Fs6l3) ∧ (match s with | (a0w, Z9) => Inv w0 ps0 H0 H [Fs6l3] w) ∧ d s H) ⟨_, (p, 0), m, q, r, rfl, rfl, t, o, ab⟩ ?_
  rintro av aw w next3 ⟨⟨a0w, Z9⟩, H, a7Z, Fs6l3, rfl, e, b1Z, I, ad⟩ hn3
  dsimp only at e I b1Z
  simp only [List.map_cons, List.map_nil, List.cons.injEq, and_true] at e
  obtain ⟨e6, e27⟩ := e
  simp only [e6, e27]
  obtain ⟨n3, hm3, h⟩ : ∃ n3 : ((List c7) × Int) → Hp → Prop, (∀ s' H', n3 s' H' → d s' H' ∧ c s' < c (a0w, Z9)) ∧ u4 x0 (x0.n : Int) a0w Z9 H n3 K := ⟨_, fun _ _ h => h, ac (a0w, Z9) H (fun s' H' => d s' H' ∧ c s' < c (a0w, Z9)) ad (fun _ _ a b => ⟨a, b⟩)⟩
  unfold b3j
  unfold u4 at h
  refine c5 (D1 _ _ _ _ _ _) ?_
  refine d7 h (fun _ h => ?_) (fun _ h => ?_)
  ·obtain ⟨ae, af, ag, f, h⟩ := h
   obtain ⟨ax, ay, ah, f⟩ := f
   refine c5 (a8S ah _ _ _ _ ae af) ?_
   refine d3 (ld1 (v := (vs ag)) Tryd.isAgg123 (I.atH f)) ?_
   obtain ⟨ai, aj, h⟩ := h
   obtain ⟨ak, h⟩ := h
   refine a5d (s := a7Z) (xs := a0w) I b1Z (SlH.src I aj E1) ak fun al am az an ao ba => ?_
   refine c5 (s8 _ _ _ _ _ _) ?_
   exact hn3 _ _ _ (hm3 _ _ h).2 ⟨((a0w ++ ai), (IntKind.wrap .i64 (Z9 + 1))), H, al, am, rfl, rfl, an, ao, (hm3 _ _ h).1⟩
  ·exact hx2 _ _ (hj2 a0w a7Z Fs6l3 H _ b1Z I h)
 refine r5 fun j1 hx1 => ?_
 refine c5 (a7X _ _ _) ?_
 refine a1X (σ := Int × Int) (fun (a4V, a1x) => [(vi a4V), (vi a1x)]) (fun (a4V, a1x) => []) h rfl I ?_
 rintro ⟨a4V, a1x⟩ H bb w next4 n4 g I h hn4
 dsimp only at g I h
 simp only [List.map_cons, List.map_nil, List.cons.injEq, and_true] at g
 obtain ⟨e3, e11⟩ := g
 simp only [e3, e11]
 unfold b3k
 unfold B3 at h
 refine c5 (D1 _ _ _ _ _ _) ?_
 refine d7 h (fun _ h => ?_) (fun _ h => ?_)
 ·have hj5 : ∀ (a8y : Int) (H : Hp) (w : World) (_ : Inv w0 ps0 H0 H [] w) (_ : u0 x0 a8y x0 (x0.n : Int) a1x H n4 K), b0g (vs x0) (vi a8y) (vs x0) (vi (x0.n : Int)) (vi a1x) w next4 R E := by
   intro a8y H w I h
   unfold b0g
   intro _
   unfold u0 at h
   refine c5 (s8 _ _ _ _ _ _) ?_
   exact hn4 (a8y, (IntKind.wrap .i64 (a1x + 1))) _ _ h I
  refine r5 fun j5 hx5 => ?_
  obtain ⟨ap, aq, k, i, h⟩ := h
  obtain ⟨bc, bd, ar, i⟩ := i
  refine c5 (a8S ar _ _ _ _ ap aq) ?_
  refine d3 (ld1 (v := (vs k)) Tryd.isAgg123 (I.atH i)) ?_
  refine c5 (a3Q _ _ _) ?_
  refine c5 (s8 _ _ _ _ _ _) ?_
  refine c5 (D1 _ _ _ _ _ _) ?_
  refine d7 h (fun _ h => ?_) (fun _ h => ?_)
  ·refine c5 (b2S _) ?_
   exact h.elim
  ·exact hx5 _ _ (hj5 (IntKind.wrap .i64 (a4V + (k.n : Int))) H _ I h)
 ·exact hx1 _ _ (hj1 a4V H _ I h)
def t6 (a6X : Bool) (a : Int) (H : Hp) (K : Int → Hp → Prop) : Prop :=
 (a6X = true →
 K 3 H) ∧
 (a6X = false →
 K 6 H)
def D2 (a6Y : Bool) (a : Int) (H : Hp) (K : Int → Hp → Prop) : Prop :=
 (a6Y = true →
 K 6 H) ∧
 (a6Y = false →
 B0 48 57 a H (fun g b =>
 (g = true →
 K 4 b) ∧
 (g = false →
 (a = 95 →
 t6 (decide (a = 95)) a b K) ∧
 (¬ (a = 95) →
 B0 97 122 a b (fun c i =>
 (c = true →
 t6 c a i K) ∧
 (c = false →
 B0 65 90 a i (fun d j =>
 (d = true →
 t6 d a j K) ∧
 (d = false →
 B0 192 591 a j (fun e k =>
 (e = true →
 t6 e a k K) ∧
 (e = false →
 B0 913 969 a k (fun f l =>
 (f = true →
 t6 f a l K) ∧
 (f = false →
 B0 1040 1103 a l (fun m n =>
 t6 m a n K)))))))))))))
def g7 (a7D : Int) (a5J : Bool) (a : Int) (H : Hp) (K : Int → Hp → Prop) : Prop :=
 (a5J = true →
 K 5 H) ∧
 (a5J = false →
 (a7D = 215 →
 D2 (decide (a7D = 215)) a H K) ∧
 (¬ (a7D = 215) →
 (a7D = 247 →
 D2 (decide (a7D = 247)) a H K) ∧
 (¬ (a7D = 247) →
 D2 (decide (a7D = 930)) a H K)))
def D3 (o0 : Int) (a0S : Bool) (a : Int) (H : Hp) (K : Int → Hp → Prop) : Prop :=
 (a0S = true →
 K 1 H) ∧
 (a0S = false →
 (o0 = 10 →
 K 2 H) ∧
 (¬ (o0 = 10) →
 (o0 = 59 →
 g7 o0 (decide (o0 = 59)) a H K) ∧
 (¬ (o0 = 59) →
 (o0 = 44 →
 g7 o0 (decide (o0 = 44)) a H K) ∧
 (¬ (o0 = 44) →
 (o0 = 123 →
 g7 o0 (decide (o0 = 123)) a H K) ∧
 (¬ (o0 = 123) →
 (o0 = 125 →
 g7 o0 (decide (o0 = 125)) a H K) ∧
 (¬ (o0 = 125) →
 (o0 = 40 →
 g7 o0 (decide (o0 = 40)) a H K) ∧
 (¬ (o0 = 40) →
 (o0 = 41 →
 g7 o0 (decide (o0 = 41)) a H K) ∧
 (¬ (o0 = 41) →
 (o0 = 91 →
 g7 o0 (decide (o0 = 91)) a H K) ∧
 (¬ (o0 = 91) →
 (o0 = 93 →
 g7 o0 (decide (o0 = 93)) a H K) ∧
 (¬ (o0 = 93) →
 (o0 = 61 →
 g7 o0 (decide (o0 = 61)) a H K) ∧
 (¬ (o0 = 61) →
 (o0 = 33 →
 g7 o0 (decide (o0 = 33)) a H K) ∧
 (¬ (o0 = 33) →
 (o0 = 60 →
 g7 o0 (decide (o0 = 60)) a H K) ∧
 (¬ (o0 = 60) →
 (o0 = 62 →
 g7 o0 (decide (o0 = 62)) a H K) ∧
 (¬ (o0 = 62) →
 (o0 = 43 →
 g7 o0 (decide (o0 = 43)) a H K) ∧
 (¬ (o0 = 43) →
 (o0 = 45 →
 g7 o0 (decide (o0 = 45)) a H K) ∧
 (¬ (o0 = 45) →
 (o0 = 42 →
 g7 o0 (decide (o0 = 42)) a H K) ∧
 (¬ (o0 = 42) →
 (o0 = 47 →
 g7 o0 (decide (o0 = 47)) a H K) ∧
 (¬ (o0 = 47) →
 (o0 = 37 →
 g7 o0 (decide (o0 = 37)) a H K) ∧
 (¬ (o0 = 37) →
 (o0 = 38 →
 g7 o0 (decide (o0 = 38)) a H K) ∧
 (¬ (o0 = 38) →
 g7 o0 (decide (o0 = 124)) a H K))))))))))))))))))))
def a0T (x0 : Int) (H : Hp) (K : Int → Hp → Prop) : Prop :=
 (x0 = 32 →
 D3 x0 (decide (x0 = 32)) x0 H K) ∧
 (¬ (x0 = 32) →
 (x0 = 9 →
 D3 x0 (decide (x0 = 9)) x0 H K) ∧
 (¬ (x0 = 9) →
 D3 x0 (decide (x0 = 13)) x0 H K))
theorem a6o (x0 : Int) {H : Hp} {K : Int → Hp → Prop} (h : a0T x0 H K) : X1 x0 H K := by
 refine Ct.of fun w0 w ps0 H0 R E I hR => b7p ?_
 unfold a0T at h
 unfold F70
 refine C1 I (cs := [(Value.int .i32 x0)]) rfl fun a u b v => ?_
 refine d3 (l1 Tryd.isAgg21 b rfl) ?_
 have hj1 : ∀ (a0S : Bool) (H : Hp) (w : World) (_ : Inv w0 ps0 H0 H [bx a 21 [(Value.int .i32 x0)]] w) (_ : D3 x0 a0S x0 H K), b0r (Value.pointer (some ⟨a, 0, none⟩)) (Value.int .i32 x0) (Value.bool a0S) w R E := by
  intro a0S H w I h
  unfold b0r
  intro _
  unfold D3 at h
  refine s7 h (fun _ h => ?_) (fun _ h => ?_)
  ·exact hR _ H _ _ I.drop ⟨1, rfl, rfl, h⟩
  ·refine c5 (f8 _ _ _ _ _ _) ?_
   refine d7 h (fun _ h => ?_) (fun _ h => ?_)
   ·exact hR _ H _ _ I.drop ⟨2, rfl, rfl, h⟩
   ·have hj2 : ∀ (a5J : Bool) (H : Hp) (w : World) (_ : Inv w0 ps0 H0 H [bx a 21 [(Value.int .i32 x0)]] w) (_ : g7 x0 a5J x0 H K), b0q (Value.pointer (some ⟨a, 0, none⟩)) (Value.int .i32 x0) (Value.bool a5J) w R E := by
     intro a5J H w I h
     unfold b0q
     intro _
     unfold g7 at h
     refine s7 h (fun _ h => ?_) (fun _ h => ?_)
     ·exact hR _ H _ _ I.drop ⟨5, rfl, rfl, h⟩
     ·have hj3 : ∀ (a6Y : Bool) (H : Hp) (w : World) (_ : Inv w0 ps0 H0 H [bx a 21 [(Value.int .i32 x0)]] w) (_ : D2 a6Y x0 H K), b0p (Value.pointer (some ⟨a, 0, none⟩)) (Value.bool a6Y) w R E := by
       intro a6Y H w I h
       unfold b0p
       intro _
       unfold D2 at h
       refine s7 h (fun _ h => ?_) (fun _ h => ?_)
       ·exact hR _ H _ _ I.drop ⟨6, rfl, rfl, h⟩
       ·refine c5 (a3d _ _ _) ?_
        refine a2o (cap := [(Value.pointer (some ⟨a, 0, none⟩))]) Tryd.call74 (h a) I ?_
        rintro _ d _ y c _ _ ⟨z, rfl, rfl, h⟩
        refine s7 h (fun _ h => ?_) (fun _ h => ?_)
        ·exact hR _ d _ _ c.drop ⟨4, rfl, rfl, h⟩
        ·have hj4 : ∀ (a6X : Bool) (H : Hp) (w : World) (_ : Inv w0 ps0 H0 H [bx a 21 [(Value.int .i32 x0)]] w) (_ : t6 a6X x0 H K), b0o (Value.bool a6X) w R E := by
          intro a6X H w I h
          unfold b0o
          intro _
          unfold t6 at h
          refine s7 h (fun _ h => ?_) (fun _ h => ?_)
          ·exact hR _ H _ _ I.drop ⟨3, rfl, rfl, h⟩
          ·exact hR _ H _ _ I.drop ⟨6, rfl, rfl, h⟩
         refine r5 fun j4 hx4 => ?_
         refine d3 (l1 Tryd.isAgg21 c rfl) ?_
         refine c5 (f8 _ _ _ _ _ _) ?_
         refine d7 h (fun _ h => ?_) (fun _ h => ?_)
         ·exact hx4 _ _ (hj4 (decide (x0 = 95)) d _ c h)
         ·refine a2o (cap := [(Value.pointer (some ⟨a, 0, none⟩))]) Tryd.call74 (h a) c ?_
          rintro _ j _ aa e _ _ ⟨k, rfl, rfl, h⟩
          refine s7 h (fun _ h => ?_) (fun _ h => ?_)
          ·exact hx4 _ _ (hj4 k j _ e h)
          ·refine a2o (cap := [(Value.pointer (some ⟨a, 0, none⟩))]) Tryd.call74 (h a) e ?_
           rintro _ l _ ab f _ _ ⟨m, rfl, rfl, h⟩
           refine s7 h (fun _ h => ?_) (fun _ h => ?_)
           ·exact hx4 _ _ (hj4 m l _ f h)
           ·refine a2o (cap := [(Value.pointer (some ⟨a, 0, none⟩))]) Tryd.call74 (h a) f ?_
            rintro _ n _ ac g _ _ ⟨o, rfl, rfl, h⟩
            refine s7 h (fun _ h => ?_) (fun _ h => ?_)
            ·exact hx4 _ _ (hj4 o n _ g h)
            ·refine a2o (cap := [(Value.pointer (some ⟨a, 0, none⟩))]) Tryd.call74 (h a) g ?_
             rintro _ p _ ad i _ _ ⟨q, rfl, rfl, h⟩
             refine s7 h (fun _ h => ?_) (fun _ h => ?_)
             ·exact hx4 _ _ (hj4 q p _ i h)
             ·refine a2o (cap := [(Value.pointer (some ⟨a, 0, none⟩))]) Tryd.call74 (h a) i ?_
              rintro _ r _ ae s _ _ ⟨t, rfl, rfl, h⟩
              exact hx4 _ _ (hj4 t r _ s h)
      refine r5 fun j3 hx3 => ?_
      refine c5 (f8 _ _ _ _ _ _) ?_
      refine d7 h (fun _ h => ?_) (fun _ h => ?_)
      ·exact hx3 _ _ (hj3 (decide (x0 = 215)) H _ I h)
      ·refine c5 (f8 _ _ _ _ _ _) ?_
       refine d7 h (fun _ h => ?_) (fun _ h => ?_)
       ·exact hx3 _ _ (hj3 (decide (x0 = 247)) H _ I h)
       ·refine c5 (f8 _ _ _ _ _ _) ?_
        exact hx3 _ _ (hj3 (decide (x0 = 930)) H _ I h)
    refine r5 fun j2 hx2 => ?_
    refine c5 (f8 _ _ _ _ _ _) ?_
    refine d7 h (fun _ h => ?_) (fun _ h => ?_)
    ·exact hx2 _ _ (hj2 (decide (x0 = 59)) H _ I h)
    ·refine c5 (f8 _ _ _ _ _ _) ?_
     refine d7 h (fun _ h => ?_) (fun _ h => ?_)
     ·exact hx2 _ _ (hj2 (decide (x0 = 44)) H _ I h)
     ·refine c5 (f8 _ _ _ _ _ _) ?_
      refine d7 h (fun _ h => ?_) (fun _ h => ?_)
      ·exact hx2 _ _ (hj2 (decide (x0 = 123)) H _ I h)
      ·refine c5 (f8 _ _ _ _ _ _) ?_
       refine d7 h (fun _ h => ?_) (fun _ h => ?_)
       ·exact hx2 _ _ (hj2 (decide (x0 = 125)) H _ I h)
       ·refine c5 (f8 _ _ _ _ _ _) ?_
        refine d7 h (fun _ h => ?_) (fun _ h => ?_)
        ·exact hx2 _ _ (hj2 (decide (x0 = 40)) H _ I h)
        ·refine c5 (f8 _ _ _ _ _ _) ?_
         refine d7 h (fun _ h => ?_) (fun _ h => ?_)
         ·exact hx2 _ _ (hj2 (decide (x0 = 41)) H _ I h)
         ·refine c5 (f8 _ _ _ _ _ _) ?_
          refine d7 h (fun _ h => ?_) (fun _ h => ?_)
          ·exact hx2 _ _ (hj2 (decide (x0 = 91)) H _ I h)
          ·refine c5 (f8 _ _ _ _ _ _) ?_
           refine d7 h (fun _ h => ?_) (fun _ h => ?_)
           ·exact hx2 _ _ (hj2 (decide (x0 = 93)) H _ I h)
           ·refine c5 (f8 _ _ _ _ _ _) ?_
            refine d7 h (fun _ h => ?_) (fun _ h => ?_)
            ·exact hx2 _ _ (hj2 (decide (x0 = 61)) H _ I h)
            ·refine c5 (f8 _ _ _ _ _ _) ?_
             refine d7 h (fun _ h => ?_) (fun _ h => ?_)
             ·exact hx2 _ _ (hj2 (decide (x0 = 33)) H _ I h)
             ·refine c5 (f8 _ _ _ _ _ _) ?_
              refine d7 h (fun _ h => ?_) (fun _ h => ?_)
              ·exact hx2 _ _ (hj2 (decide (x0 = 60)) H _ I h)
              ·refine c5 (f8 _ _ _ _ _ _) ?_
               refine d7 h (fun _ h => ?_) (fun _ h => ?_)
               ·exact hx2 _ _ (hj2 (decide (x0 = 62)) H _ I h)
               ·refine c5 (f8 _ _ _ _ _ _) ?_
                refine d7 h (fun _ h => ?_) (fun _ h => ?_)
                ·exact hx2 _ _ (hj2 (decide (x0 = 43)) H _ I h)
                ·refine c5 (f8 _ _ _ _ _ _) ?_
                 refine d7 h (fun _ h => ?_) (fun _ h => ?_)
                 ·exact hx2 _ _ (hj2 (decide (x0 = 45)) H _ I h)
                 ·refine c5 (f8 _ _ _ _ _ _) ?_
                  refine d7 h (fun _ h => ?_) (fun _ h => ?_)
                  ·exact hx2 _ _ (hj2 (decide (x0 = 42)) H _ I h)
                  ·refine c5 (f8 _ _ _ _ _ _) ?_
                   refine d7 h (fun _ h => ?_) (fun _ h => ?_)
                   ·exact hx2 _ _ (hj2 (decide (x0 = 47)) H _ I h)
                   ·refine c5 (f8 _ _ _ _ _ _) ?_
                    refine d7 h (fun _ h => ?_) (fun _ h => ?_)
                    ·exact hx2 _ _ (hj2 (decide (x0 = 37)) H _ I h)
                    ·refine c5 (f8 _ _ _ _ _ _) ?_
                     refine d7 h (fun _ h => ?_) (fun _ h => ?_)
                     ·exact hx2 _ _ (hj2 (decide (x0 = 38)) H _ I h)
                     ·refine c5 (f8 _ _ _ _ _ _) ?_
                      exact hx2 _ _ (hj2 (decide (x0 = 124)) H _ I h)
 refine r5 fun j1 hx1 => ?_
 refine c5 (f8 _ _ _ _ _ _) ?_
 refine d7 h (fun _ h => ?_) (fun _ h => ?_)
 ·exact hx1 _ _ (hj1 (decide (x0 = 32)) H _ b h)
 ·refine c5 (f8 _ _ _ _ _ _) ?_
  refine d7 h (fun _ h => ?_) (fun _ h => ?_)
  ·exact hx1 _ _ (hj1 (decide (x0 = 9)) H _ b h)
  ·refine c5 (f8 _ _ _ _ _ _) ?_
   exact hx1 _ _ (hj1 (decide (x0 = 13)) H _ b h)
def N1 (a2N : Int) (a2O : Int) (a2P : Int) (a2Q : Bool) (a2R : Bool) (a2j : (List ByteArray)) (H : Hp) (K : Bool → f5 → (List ByteArray) → Hp → Prop) : Prop :=
 K true (f5.mk a2N a2O a2P a2Q a2R (Sl.mk none 0 0)) a2j H
def N2 (b0A : Int) (W2 : Sl) (m6 : Int) (X2 : Int) (S8 : Int) (S9 : Int) (T0 : Int) (T1 : Bool) (T2 : Bool) (O7 : (List ByteArray)) (H : Hp) (n2 : (Int × Int × Int × Int × Bool × Bool × (List ByteArray)) → Hp → Prop) (K : Bool → f5 → (List ByteArray) → Hp → Prop) : Prop :=
 (X2 < m6 →
 (0 : Int) ≤ X2 ∧ (X2 : Int) < W2.n ∧ ∃ c : c7, EltH H W2 X2 1 [(v2 c)] ∧
 S6 (f5.mk S8 S9 T0 T1 T2 (Sl.mk none 0 0)) O7 c b0A H (fun b d e f =>
 TG ((!b) = false) (a0l c f) (Sl.mk none 0 0) f (fun (j : Sl) (g : Hp) =>
 TG ((!b) = false) (fun k_ => L4 j (IntKind.wrap .i64 (b0A + 1)) (N9 d) e g fun k l m H_ => k_ (k, l, m) H_) (false, (N9 d), e) g (fun (a : Bool × f5 × (List ByteArray)) (i : Hp) =>
 (((!b) || (!a.1)) = true →
 K false (f5.mk (a.2.1.fnodes) (a.2.1.fdepth) (a.2.1.fe) (a.2.1.fform) (a.2.1.fnamed) (Sl.mk none 0 0)) a.2.2 i) ∧
 (((!b) || (!a.1)) = false →
 n2 ((IntKind.wrap .i64 (X2 + 1)), (a.2.1.fnodes), (a.2.1.fdepth), (a.2.1.fe), (a.2.1.fform), (a.2.1.fnamed), a.2.2) i))))) ∧
 (¬ (X2 < m6) →
 N1 S8 S9 T0 T1 T2 O7 H K)
def Z5 (x0 : Sl) (x1 : Int) (x2 : f5) (a : (List ByteArray)) (H : Hp) (K : Bool → f5 → (List ByteArray) → Hp → Prop) : Prop :=
 TL ((0, x2.fnodes, x2.fdepth, x2.fe, x2.fform, x2.fnamed, a) : Int × Int × Int × Int × Bool × Bool × (List ByteArray)) H fun (s : Int × Int × Int × Int × Bool × Bool × (List ByteArray)) H n2 => N2 x1 x0 (x0.n : Int) s.1 s.2.1 s.2.2.1 s.2.2.2.1 s.2.2.2.2.1 s.2.2.2.2.2.1 s.2.2.2.2.2.2 H n2 K
theorem a4W (x0 : Sl) (x1 : Int) (x2 : f5) (ai : (List ByteArray)) {H : Hp} {K : Bool → f5 → (List ByteArray) → Hp → Prop} (h : Z5 x0 x1 x2 ai H K) : L4 x0 x1 x2 ai H K := by
 intro g2 g2b g3 az ba bb
 refine Ct.of fun w0 w ps0 H0 R E I hR => b7g ?_
 unfold Z5 at h
 unfold F60
 have hj1 : ∀ (a2N : Int) (a2O : Int) (a2P : Int) (a2Q : Bool) (a2R : Bool) (a2j : (List ByteArray)) (a4J : Sl) (a4K : Frag) (H : Hp) (w : World) (_ : RowL 9 1 s6 a4J a2j a4K) (_ : Inv w0 ps0 H0 H [bx g2 117 [(Value.pointer (some ⟨g2b, 0, none⟩))], bx g2b 116 [(vi a2N), (vi a2O), (vi a2P), (Value.bool a2Q), (Value.bool a2R), (vs a4J)], bx g3 132 [(Value.func (.func 60) #[] #[(Value.pointer (some ⟨g2, 0, none⟩)), (Value.pointer (some ⟨g3, 0, none⟩))])], a4K] w) (_ : N1 a2N a2O a2P a2Q a2R a2j H K), b0j w R E := by
  intro a2N a2O a2P a2Q a2R a2j a4J a4K H w b3u I h
  unfold b0j
  intro _
  unfold N1 at h
  exact hR _ H _ _ ((((I.bring 2).bring 3).bring 3).bring 3) ⟨true, (f5.mk a2N a2O a2P a2Q a2R (Sl.mk none 0 0)), a2j, a4J, a4K, rfl, rfl, b3u, h⟩
 refine r5 fun j1 hx1 => ?_
 refine c5 (a3Q _ _ _) ?_
 obtain ⟨aj, z, bc, bd⟩ := h
 refine G5 (J := fun n l w => ∃ (s : Int × Int × Int × Int × Bool × Bool × (List ByteArray)) (H : Hp) (a3p : Sl) (a3q : Frag) , n = z s ∧ l = (match s with | (X2, S8, S9, T0, T1, T2, O7) => [(vi X2)]) ∧ (match s with | (X2, S8, S9, T0, T1, T2, O7) => RowL 9 1 s6 a3p O7 a3q) ∧ (match s with | (X2, S8, S9, T0, T1, T2, O7) => Inv w0 ps0 H0 H [bx g2 117 [(Value.pointer (some ⟨g2b, 0, none⟩))], bx g2b 116 [(vi S8), (vi S9), (vi T0), (Value.bool T1), (Value.bool T2), (vs a3p)], bx g3 132 [(Value.func (.func 60) #[] #[(Value.pointer (some ⟨g2, 0, none⟩)), (Value.pointer (some ⟨g3, 0, none⟩))])], a3q] w) ∧ aj s H) ⟨_, (0, x2.fnodes, x2.fdepth, x2.fe, x2.fform, x2.fnamed, ai), H, az, ba, rfl, rfl, bb, ((((I.bring 2).bring 3).bring 3).bring 3), bc⟩ ?_
 rintro bj bk w next2 ⟨⟨X2, S8, S9, T0, T1, T2, O7⟩, H, a3p, a3q, rfl, ak, a6C, I, be⟩ hn2
 dsimp only at ak I a6C
 simp only [List.map_cons, List.map_nil, List.cons.injEq, and_true] at ak
 have e11 := ak
 simp only [e11]
 obtain ⟨n2, hm2, h⟩ : ∃ n2 : (Int × Int × Int × Int × Bool × Bool × (List ByteArray)) → Hp → Prop, (∀ s' H', n2 s' H' → aj s' H' ∧ z s' < z (X2, S8, S9, T0, T1, T2, O7)) ∧ N2 x1 x0 (x0.n : Int) X2 S8 S9 T0 T1 T2 O7 H n2 K := ⟨_, fun _ _ h => h, bd (X2, S8, S9, T0, T1, T2, O7) H (fun s' H' => aj s' H' ∧ z s' < z (X2, S8, S9, T0, T1, T2, O7)) be (fun _ _ a b => ⟨a, b⟩)⟩
 unfold b3n
 unfold N2 at h
 refine c5 (D1 _ _ _ _ _ _) ?_
 refine d7 h (fun _ h => ?_) (fun _ h => ?_)
 ·obtain ⟨bf, bg, bh, al, h⟩ := h
  obtain ⟨bl, bm, bi, al⟩ := al
  refine c5 (b2R bi _ _ _ _ bf bg) ?_
  refine d3 (ld1 (v := (v2 bh)) Tryd.isAgg126 (I.atH al)) ?_
  refine N7 I fun bn ao => ?_
  refine o8 (l1 Tryd.isAgg117 ao rfl) ?_
  refine d9 Tryd.call61 (h g2b a3p a3q a6C) ((ao.bring 3).bring 2) ?_
  rintro _ ap _ aq o _ _ ⟨p, aa, am, ac, ad, rfl, rfl, ar, h⟩
  refine f7 (W0 _) ?_
  simp only [Y3]
  refine f7 (Pu.g fun hb => by have c := hb; simp only [r7 c]; with_reducible exact (s8 _ _ _ _ _ _)) ?_
  refine o8 (Ld.g fun hb => by have c := hb; exact (l1 Tryd.isAgg132 (o.bring 3) rfl)) ?_
  refine a7Q (D := fun au u => ∃ (ab : Sl) (k : Hp), au = (gv (!p) false (vs ab)) ∧ (Inv w0 ps0 H0 k [bx g2b 116 (P4 aa ac), ad, bx g2 117 [(Value.pointer (some ⟨g2b, 0, none⟩))], bx g3 132 [(Value.func (.func 60) #[] #[(Value.pointer (some ⟨g2, 0, none⟩)), (Value.pointer (some ⟨g3, 0, none⟩))])]] u) ∧ (∀ i, i < aq.heap.size → ¬ inF [] i → u.heap[i]? = aq.heap[i]?) ∧ Hle ap k ∧ (TG ((!p) = false) (fun k_ => L4 ab (IntKind.wrap .i64 (x1 + 1)) (N9 aa) am k fun m d j H_ => k_ (m, d, j) H_) (false, (N9 aa), am) k (fun (e : Bool × f5 × (List ByteArray)) (f : Hp) =>
 (((!p) || (!e.1)) = true →
 K false (f5.mk (e.2.1.fnodes) (e.2.1.fdepth) (e.2.1.fe) (e.2.1.fform) (e.2.1.fnamed) (Sl.mk none 0 0)) e.2.2 f) ∧
 (((!p) || (!e.1)) = false →
 n2 ((IntKind.wrap .i64 (X2 + 1)), (e.2.1.fnodes), (e.2.1.fdepth), (e.2.1.fe), (e.2.1.fform), (e.2.1.fnamed), e.2.2) f)))) (fun y => ?_) (fun y => ?_) ?_
  ·replace h := h.1 y
   have c := y
   simp only [r7 c]
   refine a4U o h (fun ab k u ae av an h => ?_)
   exact ⟨ab, k, by rfl, ae, an, av, h⟩
  ·exact ⟨(Sl.mk none 0 0), ap, by rw [a9v y], o, fun _ _ _ => rfl, Hle.refl _, h.2 y⟩
  ·clear h
   rintro au u ⟨ab, k, rfl, ae, an, av, h⟩
   refine ⟨(an _ (o.bring 3).lt1 (Inv.a2p (Fi := []) (o.bring 3))), ?_⟩
   refine a7Q (D := fun aw af => ∃ (m : Bool) (d : f5) (j : (List ByteArray)) (f : Hp) (q : Sl) (r : Frag) , aw = (gv (!p) false (Value.bool m)) ∧ (RowL 9 1 s6 q j r) ∧ (Inv w0 ps0 H0 f [bx g2 117 [(Value.pointer (some ⟨g2b, 0, none⟩))], bx g2b 116 (P4 d q), r, bx g3 132 [(Value.func (.func 60) #[] #[(Value.pointer (some ⟨g2, 0, none⟩)), (Value.pointer (some ⟨g3, 0, none⟩))])]] af) ∧ (∀ i, i < u.heap.size → ¬ inF [bx g2 117 [(Value.pointer (some ⟨g2b, 0, none⟩))], bx g2b 116 (P4 aa ac), ad, bx g3 132 [(Value.func (.func 60) #[] #[(Value.pointer (some ⟨g2, 0, none⟩)), (Value.pointer (some ⟨g3, 0, none⟩))])]] i → af.heap[i]? = u.heap[i]?) ∧ Hle k f ∧ ((((!p) || (!m)) = true →
 K false (N9 d) j f) ∧
 (((!p) || (!m)) = false →
 n2 ((IntKind.wrap .i64 (X2 + 1)), d.fnodes, d.fdepth, d.fe, d.fform, d.fnamed, j) f))) (fun t => ?_) (fun t => ?_) ?_
   ·replace h := h.1 t
    have c := t
    simp only [r7 c]
    refine a2o (cap := [(Value.pointer (some ⟨g2, 0, none⟩)), (Value.pointer (some ⟨g3, 0, none⟩))]) Tryd.call60 (h g2 g2b g3 ac ad ar) ((((ae.bring 3).bring 2).bring 2).bring 3) ?_
    rintro _ f _ af ag ax ay ⟨m, d, j, q, r, rfl, rfl, ah, h⟩
    exact ⟨m, d, j, f, q, r, by rfl, ah, ag, ay, ax, h⟩
   ·exact ⟨false, (N9 aa), am, k, ac, ad, by rw [a9v t], ar, ((((ae.bring 3).bring 2).bring 2).bring 3), fun _ _ _ => rfl, Hle.refl _, h.2 t⟩
   ·clear h
    rintro aw af ⟨m, d, j, f, q, r, rfl, ah, ag, ay, ax, h⟩
    refine f7 (Pu.g fun hb => by have c := hb; simp only [r7 c]; with_reducible exact (W0 _)) ?_
    refine f7 (a1V _ _) ?_
    refine s7 h (fun _ h => ?_) (fun _ h => ?_)
    ·exact hR _ f _ _ ((((ag.bring 3).bring 3).bring 3).bring 3) ⟨false, (N9 d), j, q, r, rfl, rfl, ah, h⟩
    ·refine c5 (s8 _ _ _ _ _ _) ?_
     exact hn2 _ _ _ (hm2 _ _ h).2 ⟨((IntKind.wrap .i64 (X2 + 1)), d.fnodes, d.fdepth, d.fe, d.fform, d.fnamed, j), f, q, r, rfl, rfl, ah, ((((ag.bring 2).bring 3).bring 3).bring 3), (hm2 _ _ h).1⟩
 ·exact hx1 _ _ (hj1 S8 S9 T0 T1 T2 O7 a3p a3q H _ a6C ((((I.bring 3).bring 3).bring 3).bring 3) h)
def a1i (x0 : j6) (H : Hp) (K : Int → Hp → Prop) : Prop :=
 (0 < x0.X0 →
 K 2 H) ∧
 (¬ (0 < x0.X0) →
 K 1 H)
theorem a6D (x0 : j6) {H : Hp} {K : Int → Hp → Prop} (h : a1i x0 H K) : a3m x0 H K := by
 refine Ct.of fun w0 w ps0 H0 R E I hR => b6E ?_
 unfold a1i at h
 unfold F27
 refine C1 I (cs := (f3 x0)) rfl fun b c a d => ?_
 refine c5 a3P ?_
 refine d3 (l1 Tryd.isAgg3 a rfl) ?_
 refine c5 (a0K _ _ _ _ _ _) ?_
 refine d7 h (fun _ h => ?_) (fun _ h => ?_)
 ·exact hR _ H _ _ a.drop ⟨2, rfl, rfl, h⟩
 ·exact hR _ H _ _ a.drop ⟨1, rfl, rfl, h⟩
end Go.Proofs.YtaokfhdinhimfaaDoor
