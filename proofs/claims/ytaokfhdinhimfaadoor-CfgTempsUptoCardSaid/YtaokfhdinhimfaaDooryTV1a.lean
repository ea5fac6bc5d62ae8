/- Typed formulas of the program's functions, and the theorems that the contracts follow from them; printed by lift.py off the code. -/
import Derived.Test.YtaokfhdinhimfaaDooryTV1
namespace Go.Proofs.YtaokfhdinhimfaaDoor
open Go.RowKit
set_option maxRecDepth 100000
set_option maxHeartbeats 2000000
def R7 (x0 : d2) (f : (List c8)) (x1 : d8) (H : Hp) (K : j7 → Bool → Hp → Prop) : Prop :=
 (x1.d5 = 1 →
 K (j7.mk (-1) x1.v8) true H) ∧
 (¬ (x1.d5 = 1) →
 ∃ a : d8, ((decide (x1.d5 = 5)) = true → (0 : Int) ≤ 0 ∧ (0 : Int) < x1.u5.n ∧ EltH H x1.u5 0 4 (d9 a)) ∧
 (((decide (x1.d5 = 5)) && (decide (a.d5 = 1))) = true →
 (0 : Int) ≤ 0 ∧ (0 : Int) < x1.u5.n ∧ ∃ b : d8, EltH H x1.u5 0 4 (d9 b) ∧
 K (j7.mk (-1) (IntKind.wrap .i64 (0 - b.v8))) true H) ∧
 (((decide (x1.d5 = 5)) && (decide (a.d5 = 1))) = false →
 (x1.d5 = 2 →
 ∃ c : List (ByteArray × Int), MapH H (fun s : ByteArray => Value.string s) (fun n : Int => Value.int .i64 n) x0.fvars c ∧
 K (j7.mk ((lk x1.f0 c).getD 0) 0) true H) ∧
 (¬ (x1.d5 = 2) →
 N5 H (fun d e =>
 K d false e))))
theorem a3d (x0 : d2) (j : (List c8)) (x1 : d8) {H : Hp} {K : j7 → Bool → Hp → Prop} (h : R7 x0 j x1 H K) : L0 x0 j x1 H K := by
 intro g0 ad ae af
 refine Ct.of fun w0 w ps0 H0 R E I hR => b5Z ?_
 unfold R7 at h
 unfold F45
 refine B8 I (cs := (d9 x1)) rfl fun ag ah s ai => ?_
 refine o9 s Tryd.zeroValue44 (cs := [(vi 0), (vi 0)]) rfl fun aj ak c al => ?_
 refine c5 N4 ?_
 refine d3 (l1 Tryd.isAgg3 (c.bring 1) rfl) ?_
 refine c5 (f9 _ _ _ _ _ _) ?_
 refine d7 h (fun _ h => ?_) (fun _ h => ?_)
 ·refine c5 a3p ?_
  refine d3 (l1 Tryd.isAgg2 (c.bring 1) rfl) ?_
  refine c5 (a5L _ _) ?_
  refine s8 c Tryd.sizeOf44 (vs := [(vi (-1)), (vi x1.v8)]) fun am l an => ?_
  refine R0 Tryd.isAgg44 Tryd.sizeOf44 rfl l ?_
  exact hR _ H _ _ ((l.drop.drop.bring 1).bring 1) ⟨(j7.mk (-1) x1.v8), true, rfl, rfl, h⟩
 ·refine c5 N4 ?_
  refine d3 (l1 Tryd.isAgg3 (c.bring 1) rfl) ?_
  refine c5 (f9 _ _ _ _ _ _) ?_
  refine c5 (Pu.g fun hb => by have a := hb; with_reducible exact X8) ?_
  refine d3 (Ld.g fun hb => by have a := hb; simp only [m6 a]; exact (l1 Tryd.isAgg23 (c.bring 1) rfl)) ?_
  obtain ⟨e, b, h⟩ := h
  obtain ⟨ao, ap, b⟩ := b3Q b
  refine c5 (Pu.g fun hb => by have a := hb; simp only [m6 a]; with_reducible exact (Y3 (b hb).2.2.1 _ _ _ _ (b hb).1 (b hb).2.1)) ?_
  refine c5 (Pu.g fun hb => by have a := hb; simp only [m6 a]; with_reducible exact N4) ?_
  refine d3 (Ld.g fun hb => by have a := hb; simp only [m6 a]; exact (ld1 (v := (vi e.d5)) Tryd.isAgg3 ((c.atH (b hb).2.2.2).sub (k := 0) (n := 1) (nb rfl)))) ?_
  refine c5 (Pu.g fun hb => by have a := hb; simp only [m6 a]; with_reducible exact (f9 _ _ _ _ _ _)) ?_
  refine c5 (E6 _ _) ?_
  refine r7 h (fun _ h => ?_) (fun _ h => ?_)
  ·refine c5 X8 ?_
   refine d3 (l1 Tryd.isAgg23 (c.bring 1) rfl) ?_
   obtain ⟨t, u, f, i, h⟩ := h
   obtain ⟨aq, ar, y, i⟩ := i
   refine c5 (Y3 y _ _ _ _ t u) ?_
   refine c5 a3p ?_
   refine d3 (ld1 (v := (vi f.v8)) Tryd.isAgg2 ((c.atH i).sub (k := 1) (n := 1) (nb rfl))) ?_
   refine c5 (b5l _ _) ?_
   refine c5 (a5L _ _) ?_
   refine s8 c Tryd.sizeOf44 (vs := [(vi (-1)), (vi (IntKind.wrap .i64 (0 - f.v8)))]) fun au m av => ?_
   refine R0 Tryd.isAgg44 Tryd.sizeOf44 rfl m ?_
   exact hR _ H _ _ ((m.drop.drop.bring 1).bring 1) ⟨(j7.mk (-1) (IntKind.wrap .i64 (0 - f.v8))), true, rfl, rfl, h⟩
  ·refine c5 N4 ?_
   refine d3 (l1 Tryd.isAgg3 (c.bring 1) rfl) ?_
   refine c5 (f9 _ _ _ _ _ _) ?_
   refine d7 h (fun _ h => ?_) (fun _ h => ?_)
   ·refine M9 c fun aw d => ?_
    refine f6 (m3 _) ?_
    refine f6 a5b ?_
    refine f6 a1e ?_
    refine p5 (l1 Tryd.isAgg57 (d.bring 2) rfl) ?_
    refine p5 (l1 Tryd.isAgg9 (d.bring 1) rfl) ?_
    obtain ⟨o, aa, h⟩ := h
    refine a4Z (keyS Tryd.underlying9) Tryd.underlying57 (z := 0) Tryd.zeroValue3 d aa x1.f0 ?_
    refine f6 (a1y _) ?_
    refine s8 d Tryd.sizeOf44 (vs := [(vi ((lk x1.f0 o).getD 0)), (vi 0)]) fun ax p ay => ?_
    refine R0 Tryd.isAgg44 Tryd.sizeOf44 rfl p ?_
    exact hR _ H _ _ ((p.drop.drop.bring 1).bring 1) ⟨(j7.mk ((lk x1.f0 o).getD 0) 0), true, rfl, rfl, h⟩
   ·refine f5 Tryd.call39 h c ?_
    rintro _ ab _ az ac _ _ ⟨q, rfl, rfl, h⟩
    refine s8 ac Tryd.sizeOf44 (vs := (m1 q)) fun ba r bb => ?_
    refine R0 Tryd.isAgg44 Tryd.sizeOf44 rfl r ?_
    exact hR _ ab _ _ ((r.drop.drop.bring 1).bring 1) ⟨q, false, rfl, rfl, h⟩
def a2k (x0 : Int) (H : Hp) (K : Int → Hp → Prop) : Prop :=
 (0 : Int) ≤ x0 ∧ (x0 : Int) < 11 ∧
 K (([0, 0, 0, 9, 10, 3, 4, 5, 6, 7, 8] : List Int).getD (x0 : Int).toNat 0) H
theorem a5M (x0 : Int) {H : Hp} {K : Int → Hp → Prop} (h : a2k x0 H K) : a0B x0 H K := by
 refine Ct.of fun w0 w ps0 H0 R E I hR => b6g ?_
 unfold a2k at h
 unfold F52
 refine c5 (a2I _ _ _ _ _ _ _ _) ?_
 obtain ⟨a, b, h⟩ := h
 refine c5 (b1b _ _ _ _ _ _ _ _ _ _ _ _ _ a b) ?_
 exact hR _ H _ _ I ⟨(([0, 0, 0, 9, 10, 3, 4, 5, 6, 7, 8] : List Int).getD (x0 : Int).toNat 0), rfl, rfl, h⟩
def T4 (x0 : d2) (a : (List c8)) (x1 : Int) (H : Hp) (K : Int → d2 → (List c8) → Hp → Prop) : Prop :=
 K (IntKind.wrap .i64 ((x0.fc.u6.n : Int) + x1)) (d2.mk (D3.mk x0.fc.u6 (if (IntKind.wrap .i64 (x1 + 1)) > x0.fc.C5 then IntKind.wrap .i64 (x1 + 1) else x0.fc.C5) x0.fc.z8 x0.fc.y1 x0.fc.B5 (Sl.mk none 0 0)) x0.fvars x0.farrays) a H
theorem a3t (x0 : d2) (a : (List c8)) (x1 : Int) {H : Hp} {K : Int → d2 → (List c8) → Hp → Prop} (h : T4 x0 a x1 H K) : T2 x0 a x1 H K := by
 intro g0 c d e
 refine Ct.of fun w0 w ps0 H0 R E I hR => b6h ?_
 unfold T4 at h
 unfold F53
 refine c5 (m3 _) ?_
 refine c5 D2 ?_
 refine c5 a1S ?_
 refine d3 (l1 Tryd.isAgg3 I rfl) ?_
 refine c5 (v2 _ _ _ _ _ _) ?_
 refine c5 (b1K _ _ _ _ _) ?_
 refine c5 (m3 _) ?_
 refine c5 D2 ?_
 refine c5 a1S ?_
 refine N0 I Tryd.sizeOf3 fun f b g => ?_
 refine c5 (m3 _) ?_
 refine c5 D2 ?_
 refine c5 a7s ?_
 refine d3 (l1 Tryd.isAgg26 b rfl) ?_
 refine c5 (a4n _ _ _) ?_
 refine c5 (v2 _ _ _ _ _ _) ?_
 exact hR _ H _ _ ((b.bring 1).bring 1) ⟨(IntKind.wrap .i64 ((x0.fc.u6.n : Int) + x1)), (d2.mk (D3.mk x0.fc.u6 (if (IntKind.wrap .i64 (x1 + 1)) > x0.fc.C5 then IntKind.wrap .i64 (x1 + 1) else x0.fc.C5) x0.fc.z8 x0.fc.y1 x0.fc.B5 (Sl.mk none 0 0)) x0.fvars x0.farrays), a, c, d, rfl, rfl, e, h⟩
def Q6 (x0 : d2) (a : (List c8)) (x1 : j7) (x2 : Int) (H : Hp) (K : Int → Hp → Prop) : Prop :=
 ((x0.fc.u6.n : Int) ≤ x1.E7 →
 K (IntKind.wrap .i64 (x2 + 1)) H) ∧
 (¬ ((x0.fc.u6.n : Int) ≤ x1.E7) →
 K x2 H)
theorem a2L (x0 : d2) (b : (List c8)) (x1 : j7) (x2 : Int) {H : Hp} {K : Int → Hp → Prop} (h : Q6 x0 b x1 x2 H K) : Q3 x0 b x1 x2 H K := by
 intro g0 d e f
 refine Ct.of fun w0 w ps0 H0 R E I hR => b6c ?_
 unfold Q6 at h
 unfold F48
 refine B8 I (cs := (m1 x1)) rfl fun g i c j => ?_
 refine M9 c fun k a => ?_
 refine f6 a7t ?_
 refine f6 (m3 _) ?_
 refine f6 D2 ?_
 refine f6 a7s ?_
 refine p5 (l1 Tryd.isAgg3 a rfl) ?_
 refine p5 (l1 Tryd.isAgg26 (a.bring 1) rfl) ?_
 refine f6 (a4n _ _ _) ?_
 refine f6 (a5U _ _ _ _ _ _) ?_
 refine d7 h (fun _ h => ?_) (fun _ h => ?_)
 ·refine c5 (v2 _ _ _ _ _ _) ?_
  exact hR _ H _ _ ((a.drop.bring 1).bring 1) ⟨(IntKind.wrap .i64 (x2 + 1)), rfl, rfl, h⟩
 ·exact hR _ H _ _ ((a.drop.bring 1).bring 1) ⟨x2, rfl, rfl, h⟩
def V3 (x0 : d2) (g : (List c8)) (x1 : Sl) (x2 : Int) (x3 : Int) (H : Hp) (K : j7 → j7 → Int → d2 → (List c8) → Hp → Prop) : Prop :=
 (0 : Int) ≤ 0 ∧ (0 : Int) < x1.n ∧ ∃ a : d8, EltH H x1 0 4 (d9 a) ∧
 D5 (c6 x0) g a x2 x3 H (fun b i c d e =>
 (0 : Int) ≤ 1 ∧ (1 : Int) < x1.n ∧ ∃ f : d8, EltH e x1 1 4 (d9 f) ∧
 Q3 (c6 c) d b x3 e (fun j k =>
 D5 (c6 c) d f i j k (fun l m o p q =>
 K b l m (c6 o) p q)))
theorem a3P (x0 : d2) (k : (List c8)) (x1 : Sl) (x2 : Int) (x3 : Int) {H : Hp} {K : j7 → j7 → Int → d2 → (List c8) → Hp → Prop} (h : V3 x0 k x1 x2 x3 H K) : J3 x0 k x1 x2 x3 H K := by
 intro g0 o p q
 refine Ct.of fun w0 w ps0 H0 R E I hR => b5P ?_
 unfold V3 at h
 unfold F30
 refine o9 I Tryd.zeroValue44 (cs := [(vi 0), (vi 0)]) rfl fun r aw s ax => ?_
 refine o9 s Tryd.zeroValue44 (cs := [(vi 0), (vi 0)]) rfl fun t ay l az => ?_
 obtain ⟨u, v, y, e, h⟩ := h
 obtain ⟨ba, bb, z, e⟩ := e
 refine c5 (Y3 z _ _ _ _ u v) ?_
 refine d3 (ldA (vs := (d9 y)) Tryd.isAgg25 Tryd.sizeOf25 rfl (l.atH e)) ?_
 refine f5 Tryd.call47 (h g0 o p q) ((l.bring 3).bring 3) ?_
 rintro _ _ _ bc aa _ _ ⟨c, ab, ac, bd, f, g, rfl, rfl, m, h⟩
 refine c5 (g8 _ _ _ rfl) ?_
 refine c5 (g8 _ _ (vi ab) rfl) ?_
 refine s8 (aa.bring 3) Tryd.sizeOf44 (vs := (m1 c)) fun be ad bf => ?_
 refine M9 ad fun bg a => ?_
 obtain ⟨ae, af, ag, b, h⟩ := h
 obtain ⟨bh, bi, ah, b⟩ := b
 refine f6 (Y3 ah _ _ _ _ ae af) ?_
 refine p5 (ldA (vs := (d9 ag)) Tryd.isAgg25 Tryd.sizeOf25 rfl (a.atH b)) ?_
 refine p5 (lW Tryd.isAgg44 Tryd.sizeOf44 rfl a) ?_
 refine f5 Tryd.call48 (h g0 f g m) ((a.bring 2).bring 2) ?_
 rintro _ _ _ bj ai _ aj ⟨bk, rfl, rfl, h⟩
 refine ⟨(aj _ (a.b5m b) ((Inv.self (Fi := [bx g0 59 (i6 ac f), g]) (Fr := [bx r 44 (m1 c), bx t 44 [(vi 0), (vi 0)]]) ((a.bring 2).bring 2)).b4z b)), ?_⟩
 refine f5 Tryd.call47 (h g0 f g m) ((ai.bring 1).bring 1) ?_
 rintro _ ak _ bl al _ _ ⟨i, n, am, an, ao, ap, rfl, rfl, aq, h⟩
 refine f6 (g8 _ _ _ rfl) ?_
 refine f6 (g8 _ _ (vi n) rfl) ?_
 refine s8 (al.bring 3) Tryd.sizeOf44 (vs := (m1 i)) fun bm ar bn => ?_
 refine M9 ar fun bo d => ?_
 refine p5 (lW Tryd.isAgg44 Tryd.sizeOf44 rfl (d.bring 3)) ?_
 refine p5 (lW Tryd.isAgg44 Tryd.sizeOf44 rfl d) ?_
 refine s8 (d.bring 3) Tryd.sizeOf44 (vs := (m1 c)) fun bp au av => ?_
 refine ⟨(av _ (Inv.a8U (d.bring 3))), ?_⟩
 refine s8 (au.bring 1) Tryd.sizeOf44 (vs := (m1 i)) fun bq j br => ?_
 refine R0 Tryd.isAgg44 Tryd.sizeOf44 rfl (j.bring 1) ?_
 refine R0 Tryd.isAgg44 Tryd.sizeOf44 rfl j ?_
 exact hR _ ak _ _ ((j.drop.drop.bring 1).bring 1) ⟨c, i, n, (c6 am), an, ao, ap, rfl, rfl, aq, h⟩
def a0j (x0 : l9) (H : Hp) (K : c7 → Hp → Prop) : Prop :=
 K (c7.v7 (E4.mk x0)) H
theorem a5i (x0 : l9) {H : Hp} {K : c7 → Hp → Prop} (h : a0j x0 H K) : a1Z x0 H K := by
 refine Ct.of fun w0 w ps0 H0 R E I hR => b6n ?_
 unfold a0j at h
 unfold F59
 refine B8 I (cs := (l0 x0)) rfl fun b c a d => ?_
 refine d3 (lW Tryd.isAgg39 Tryd.sizeOf39 rfl a) ?_
 refine c5 (a9i _ _ _ _ _ _ _ _ _ _ _ _ _ _) ?_
 refine c5 (a7R (E4.mk x0)) ?_
 exact hR _ H _ _ a.drop ⟨(c7.v7 (E4.mk x0)), rfl, rfl, h⟩
def t7 (b8m : Sl) (a7V : Int) (b8n : Sl) (b3U : Int) (b1j : Int) (H : Hp) (n4 : (Int × Int) → Hp → Prop) (K : Sl → Hp → Prop) : Prop :=
 n4 (a7V, (IntKind.wrap .i64 (b1j + 1))) H
def t8 (a7x : (List c7)) (H : Hp) (K : Sl → Hp → Prop) : Prop :=
 ∀ (a2F : Sl) (a : Hp), Hle H a → SlH a 1 j8 a2F a7x → a2F.n ≤ a2F.c →
 K a2F a
def u0 (b3V : Sl) (b3W : Int) (a0k : (List c7)) (Y9 : Int) (H : Hp) (n3 : ((List c7) × Int) → Hp → Prop) (K : Sl → Hp → Prop) : Prop :=
 (Y9 < b3W →
 (0 : Int) ≤ Y9 ∧ (Y9 : Int) < b3V.n ∧ ∃ b : Sl, EltH H b3V Y9 1 [(vs b)] ∧
 ∃ a : List c7, SlH H 1 j8 b a ∧ (a0k.length + a.length) * 17 ≤ 140737488355328 ∧
 n3 ((a0k ++ a), (IntKind.wrap .i64 (Y9 + 1))) H) ∧
 (¬ (Y9 < b3W) →
 t8 a0k H K)
def u1 (a2m : Sl) (a3e : Int) (H : Hp) (K : Sl → Hp → Prop) : Prop :=
 D9 a3e H (fun a b =>
 TL ((a, 0) : (List c7) × Int) b fun (s : (List c7) × Int) H n3 => u0 a2m (a2m.n : Int) s.1 s.2 H n3 K)
def A7 (b6N : Sl) (b3g : Sl) (b1k : Int) (a4A : Int) (a1h : Int) (H : Hp) (n4 : (Int × Int) → Hp → Prop) (K : Sl → Hp → Prop) : Prop :=
 (a1h < b1k →
 (0 : Int) ≤ a1h ∧ (a1h : Int) < b3g.n ∧ ∃ a : Sl, EltH H b3g a1h 1 [(vs a)] ∧
 ((IntKind.wrap .i64 (a4A + (a.n : Int))) < 0 →
 False) ∧
 (¬ ((IntKind.wrap .i64 (a4A + (a.n : Int))) < 0) →
 t7 b6N (IntKind.wrap .i64 (a4A + (a.n : Int))) b3g b1k a1h H n4 K)) ∧
 (¬ (a1h < b1k) →
 u1 b6N a4A H K)
def B4 (x0 : Sl) (H : Hp) (K : Sl → Hp → Prop) : Prop :=
 TL ((0, 0) : Int × Int) H fun (s : Int × Int) H n4 => A7 x0 x0 (x0.n : Int) s.1 s.2 H n4 K
theorem U8 (x0 : Sl) {H : Hp} {K : Sl → Hp → Prop} (h : B4 x0 H K) : r5 x0 H K := by
 refine Ct.of fun w0 w ps0 H0 R E I hR => b6j ?_
 unfold B4 at h
 unfold F55
 have hj1 : ∀ (a3e : Int) (H : Hp) (w : World) (_ : Inv w0 ps0 H0 H [] w) (_ : u1 x0 a3e H K), a9A (vs x0) (vi a3e) w R E := by
  intro a3e H w I h
  unfold a9A
  intro _
  unfold u1 at h
  refine f5 Tryd.call62 h I ?_
  rintro _ m _ au o _ _ ⟨p, q, r, rfl, rfl, t, h⟩
  have hj2 : ∀ (a7x : (List c7)) (a2F : Sl) (Fs6j2 : Frag) (H : Hp) (w : World) (_ : RowL 126 1 j8 a2F a7x Fs6j2) (_ : Inv w0 ps0 H0 H [Fs6j2] w) (_ : t8 a7x H K), a9z (vs a2F) w R E := by
   intro a7x a2F Fs6j2 H w b7C I h
   unfold a9z
   intro _
   unfold t8 at h
   obtain ⟨j, u, y, z, aa⟩ := Inv.freezeC I b7C (by decide)
   replace h := h a2F j y z aa
   exact hR _ j _ _ u ⟨a2F, rfl, rfl, h⟩
  refine s7 fun j2 hx2 => ?_
  refine c5 (a7w _ _ _) ?_
  obtain ⟨d, c, ab, ac⟩ := h
  refine E0 (J := fun n l w => ∃ (s : (List c7) × Int) (H : Hp) (a7y : Sl) (Fs6l3 : Frag) , n = c s ∧ l = (match s with | (a0k, Y9) => [(vs a7y), (vi Y9)]) ∧ (match s with | (a0k, Y9) => RowL 126 1 j8 a7y a0k Fs6l3) ∧ (match s with | (a0k, Y9) => Inv w0 ps0 H0 H [Fs6l3] w) ∧ d s H) ⟨_, (p, 0), m, q, r, rfl, rfl, t, o, ab⟩ ?_
  rintro av aw w next3 ⟨⟨a0k, Y9⟩, H, a7y, Fs6l3, rfl, e, b1l, I, ad⟩ hn3
  dsimp only at e I b1l
  simp only [List.map_cons, List.map_nil, List.cons.injEq, and_true] at e
  obtain ⟨e6, e27⟩ := e
  simp only [e6, e27]
  obtain ⟨n3, hm3, h⟩ : ∃ n3 : ((List c7) × Int) → Hp → Prop, (∀ s' H', n3 s' H' → d s' H' ∧ c s' < c (a0k, Y9)) ∧ u0 x0 (x0.n : Int) a0k Y9 H n3 K := ⟨_, fun _ _ h => h, ac (a0k, Y9) H (fun s' H' => d s' H' ∧ c s' < c (a0k, Y9)) ad (fun _ _ a b => ⟨a, b⟩)⟩
  unfold b2p
  unfold u0 at h
  refine c5 (B7 _ _ _ _ _ _) ?_
  refine d7 h (fun _ h => ?_) (fun _ h => ?_)
  ·obtain ⟨ae, af, ag, f, h⟩ := h
   obtain ⟨ax, ay, ah, f⟩ := f
   refine c5 (a8o ah _ _ _ _ ae af) ?_
   refine d3 (ld1 (v := (vs ag)) Tryd.isAgg123 (I.atH f)) ?_
   obtain ⟨ai, aj, h⟩ := h
   obtain ⟨ak, h⟩ := h
   refine a4I (s := a7y) (xs := a0k) I b1l (SlH.src I aj D4) ak fun al am az an ao ba => ?_
   refine c5 (v2 _ _ _ _ _ _) ?_
   exact hn3 _ _ _ (hm3 _ _ h).2 ⟨((a0k ++ ai), (IntKind.wrap .i64 (Y9 + 1))), H, al, am, rfl, rfl, an, ao, (hm3 _ _ h).1⟩
  ·exact hx2 _ _ (hj2 a0k a7y Fs6l3 H _ b1l I h)
 refine s7 fun j1 hx1 => ?_
 refine c5 (a7w _ _ _) ?_
 refine a3L (σ := Int × Int) (fun (a4A, a1h) => [(vi a4A), (vi a1h)]) (fun (a4A, a1h) => []) h rfl I ?_
 rintro ⟨a4A, a1h⟩ H bb w next4 n4 g I h hn4
 dsimp only at g I h
 simp only [List.map_cons, List.map_nil, List.cons.injEq, and_true] at g
 obtain ⟨e3, e11⟩ := g
 simp only [e3, e11]
 unfold b2q
 unfold A7 at h
 refine c5 (B7 _ _ _ _ _ _) ?_
 refine d7 h (fun _ h => ?_) (fun _ h => ?_)
 ·have hj5 : ∀ (a7V : Int) (H : Hp) (w : World) (_ : Inv w0 ps0 H0 H [] w) (_ : t7 x0 a7V x0 (x0.n : Int) a1h H n4 K), a9B (vs x0) (vi a7V) (vs x0) (vi (x0.n : Int)) (vi a1h) w next4 R E := by
   intro a7V H w I h
   unfold a9B
   intro _
   unfold t7 at h
   refine c5 (v2 _ _ _ _ _ _) ?_
   exact hn4 (a7V, (IntKind.wrap .i64 (a1h + 1))) _ _ h I
  refine s7 fun j5 hx5 => ?_
  obtain ⟨ap, aq, k, i, h⟩ := h
  obtain ⟨bc, bd, ar, i⟩ := i
  refine c5 (a8o ar _ _ _ _ ap aq) ?_
  refine d3 (ld1 (v := (vs k)) Tryd.isAgg123 (I.atH i)) ?_
  refine c5 (a3s _ _ _) ?_
  refine c5 (v2 _ _ _ _ _ _) ?_
  refine c5 (B7 _ _ _ _ _ _) ?_
  refine d7 h (fun _ h => ?_) (fun _ h => ?_)
  ·refine c5 (b1Y _) ?_
   exact h.elim
  ·exact hx5 _ _ (hj5 (IntKind.wrap .i64 (a4A + (k.n : Int))) H _ I h)
 ·exact hx1 _ _ (hj1 a4A H _ I h)
def s9 (a6u : Bool) (a : Int) (H : Hp) (K : Int → Hp → Prop) : Prop :=
 (a6u = true →
 K 3 H) ∧
 (a6u = false →
 K 6 H)
def C6 (a6v : Bool) (a : Int) (H : Hp) (K : Int → Hp → Prop) : Prop :=
 (a6v = true →
 K 6 H) ∧
 (a6v = false →
 A5 48 57 a H (fun g b =>
 (g = true →
 K 4 b) ∧
 (g = false →
 (a = 95 →
 s9 (decide (a = 95)) a b K) ∧
 (¬ (a = 95) →
 A5 97 122 a b (fun c i =>
 (c = true →
 s9 c a i K) ∧
 (c = false →
 A5 65 90 a i (fun d j =>
 (d = true →
 s9 d a j K) ∧
 (d = false →
 A5 192 591 a j (fun e k =>
 (e = true →
 s9 e a k K) ∧
 (e = false →
 A5 913 969 a k (fun f l =>
 (f = true →
 s9 f a l K) ∧
 (f = false →
 A5 1040 1103 a l (fun m n =>
 s9 m a n K)))))))))))))
def g7 (a7b : Int) (a5j : Bool) (a : Int) (H : Hp) (K : Int → Hp → Prop) : Prop :=
 (a5j = true →
 K 5 H) ∧
 (a5j = false →
 (a7b = 215 →
 C6 (decide (a7b = 215)) a H K) ∧
 (¬ (a7b = 215) →
 (a7b = 247 →
 C6 (decide (a7b = 247)) a H K) ∧
 (¬ (a7b = 247) →
 C6 (decide (a7b = 930)) a H K)))
def C7 (o0 : Int) (a3Q : Bool) (a : Int) (H : Hp) (K : Int → Hp → Prop) : Prop :=
 (a3Q = true →
 K 1 H) ∧
 (a3Q = false →
 (o0 = 10 →
 K 2 H) ∧
 (¬ (o0 = 10) →
 (o0 = 59 →
 g7 o0 (decide (o0 = 59)) a H K) ∧
 (¬ (o0 = 59) →
 (o0 = 44 →
 g7 o0 (decide (o0 = 44)) a H K) ∧
 (¬ (o0 = 44) →
 (o0 = 123 →
 g7 o0 (decide (o0 = 123)) a H K) ∧
 (¬ (o0 = 123) →
 (o0 = 125 →
 g7 o0 (decide (o0 = 125)) a H K) ∧
 (¬ (o0 = 125) →
 (o0 = 40 →
 g7 o0 (decide (o0 = 40)) a H K) ∧
 (¬ (o0 = 40) →
 (o0 = 41 →
 g7 o0 (decide (o0 = 41)) a H K) ∧
 (¬ (o0 = 41) →
 (o0 = 91 →
 g7 o0 (decide (o0 = 91)) a H K) ∧
 (¬ (o0 = 91) →
 (o0 = 93 →
 g7 o0 (decide (o0 = 93)) a H K) ∧
 (¬ (o0 = 93) →
 (o0 = 61 →
 g7 o0 (decide (o0 = 61)) a H K) ∧
 (¬ (o0 = 61) →
 (o0 = 33 →
 g7 o0 (decide (o0 = 33)) a H K) ∧
 (¬ (o0 = 33) →
 (o0 = 60 →
 g7 o0 (decide (o0 = 60)) a H K) ∧
 (¬ (o0 = 60) →
 (o0 = 62 →
 g7 o0 (decide (o0 = 62)) a H K) ∧
 (¬ (o0 = 62) →
 (o0 = 43 →
 g7 o0 (decide (o0 = 43)) a H K) ∧
 (¬ (o0 = 43) →
 (o0 = 45 →
 g7 o0 (decide (o0 = 45)) a H K) ∧
 (¬ (o0 = 45) →
 (o0 = 42 →
 g7 o0 (decide (o0 = 42)) a H K) ∧
 (¬ (o0 = 42) →
 (o0 = 47 →
 g7 o0 (decide (o0 = 47)) a H K) ∧
 (¬ (o0 = 47) →
 (o0 = 37 →
 g7 o0 (decide (o0 = 37)) a H K) ∧
 (¬ (o0 = 37) →
 (o0 = 38 →
 g7 o0 (decide (o0 = 38)) a H K) ∧
 (¬ (o0 = 38) →
 g7 o0 (decide (o0 = 124)) a H K))))))))))))))))))))
def a0E (x0 : Int) (H : Hp) (K : Int → Hp → Prop) : Prop :=
 (x0 = 32 →
 C7 x0 (decide (x0 = 32)) x0 H K) ∧
 (¬ (x0 = 32) →
 (x0 = 9 →
 C7 x0 (decide (x0 = 9)) x0 H K) ∧
 (¬ (x0 = 9) →
 C7 x0 (decide (x0 = 13)) x0 H K))
theorem a5N (x0 : Int) {H : Hp} {K : Int → Hp → Prop} (h : a0E x0 H K) : W2 x0 H K := by
 refine Ct.of fun w0 w ps0 H0 R E I hR => b6x ?_
 unfold a0E at h
 unfold F70
 refine B8 I (cs := [(Value.int .i32 x0)]) rfl fun a u b v => ?_
 refine d3 (l1 Tryd.isAgg21 b rfl) ?_
 have hj1 : ∀ (a3Q : Bool) (H : Hp) (w : World) (_ : Inv w0 ps0 H0 H [bx a 21 [(Value.int .i32 x0)]] w) (_ : C7 x0 a3Q x0 H K), a9M (Value.pointer (some ⟨a, 0, none⟩)) (Value.int .i32 x0) (Value.bool a3Q) w R E := by
  intro a3Q H w I h
  unfold a9M
  intro _
  unfold C7 at h
  refine r7 h (fun _ h => ?_) (fun _ h => ?_)
  ·exact hR _ H _ _ I.drop ⟨1, rfl, rfl, h⟩
  ·refine c5 (f9 _ _ _ _ _ _) ?_
   refine d7 h (fun _ h => ?_) (fun _ h => ?_)
   ·exact hR _ H _ _ I.drop ⟨2, rfl, rfl, h⟩
   ·have hj2 : ∀ (a5j : Bool) (H : Hp) (w : World) (_ : Inv w0 ps0 H0 H [bx a 21 [(Value.int .i32 x0)]] w) (_ : g7 x0 a5j x0 H K), a9L (Value.pointer (some ⟨a, 0, none⟩)) (Value.int .i32 x0) (Value.bool a5j) w R E := by
     intro a5j H w I h
     unfold a9L
     intro _
     unfold g7 at h
     refine r7 h (fun _ h => ?_) (fun _ h => ?_)
     ·exact hR _ H _ _ I.drop ⟨5, rfl, rfl, h⟩
     ·have hj3 : ∀ (a6v : Bool) (H : Hp) (w : World) (_ : Inv w0 ps0 H0 H [bx a 21 [(Value.int .i32 x0)]] w) (_ : C6 a6v x0 H K), a9K (Value.pointer (some ⟨a, 0, none⟩)) (Value.bool a6v) w R E := by
       intro a6v H w I h
       unfold a9K
       intro _
       unfold C6 at h
       refine r7 h (fun _ h => ?_) (fun _ h => ?_)
       ·exact hR _ H _ _ I.drop ⟨6, rfl, rfl, h⟩
       ·refine c5 (a2C _ _ _) ?_
        refine a1P (cap := [(Value.pointer (some ⟨a, 0, none⟩))]) Tryd.call74 (h a) I ?_
        rintro _ d _ y c _ _ ⟨z, rfl, rfl, h⟩
        refine r7 h (fun _ h => ?_) (fun _ h => ?_)
        ·exact hR _ d _ _ c.drop ⟨4, rfl, rfl, h⟩
        ·have hj4 : ∀ (a6u : Bool) (H : Hp) (w : World) (_ : Inv w0 ps0 H0 H [bx a 21 [(Value.int .i32 x0)]] w) (_ : s9 a6u x0 H K), a9J (Value.bool a6u) w R E := by
          intro a6u H w I h
          unfold a9J
          intro _
          unfold s9 at h
          refine r7 h (fun _ h => ?_) (fun _ h => ?_)
          ·exact hR _ H _ _ I.drop ⟨3, rfl, rfl, h⟩
          ·exact hR _ H _ _ I.drop ⟨6, rfl, rfl, h⟩
         refine s7 fun j4 hx4 => ?_
         refine d3 (l1 Tryd.isAgg21 c rfl) ?_
         refine c5 (f9 _ _ _ _ _ _) ?_
         refine d7 h (fun _ h => ?_) (fun _ h => ?_)
         ·exact hx4 _ _ (hj4 (decide (x0 = 95)) d _ c h)
         ·refine a1P (cap := [(Value.pointer (some ⟨a, 0, none⟩))]) Tryd.call74 (h a) c ?_
          rintro _ j _ aa e _ _ ⟨k, rfl, rfl, h⟩
          refine r7 h (fun _ h => ?_) (fun _ h => ?_)
          ·exact hx4 _ _ (hj4 k j _ e h)
          ·refine a1P (cap := [(Value.pointer (some ⟨a, 0, none⟩))]) Tryd.call74 (h a) e ?_
           rintro _ l _ ab f _ _ ⟨m, rfl, rfl, h⟩
           refine r7 h (fun _ h => ?_) (fun _ h => ?_)
           ·exact hx4 _ _ (hj4 m l _ f h)
           ·refine a1P (cap := [(Value.pointer (some ⟨a, 0, none⟩))]) Tryd.call74 (h a) f ?_
            rintro _ n _ ac g _ _ ⟨o, rfl, rfl, h⟩
            refine r7 h (fun _ h => ?_) (fun _ h => ?_)
            ·exact hx4 _ _ (hj4 o n _ g h)
            ·refine a1P (cap := [(Value.pointer (some ⟨a, 0, none⟩))]) Tryd.call74 (h a) g ?_
             rintro _ p _ ad i _ _ ⟨q, rfl, rfl, h⟩
             refine r7 h (fun _ h => ?_) (fun _ h => ?_)
             ·exact hx4 _ _ (hj4 q p _ i h)
             ·refine a1P (cap := [(Value.pointer (some ⟨a, 0, none⟩))]) Tryd.call74 (h a) i ?_
              rintro _ r _ ae s _ _ ⟨t, rfl, rfl, h⟩
              exact hx4 _ _ (hj4 t r _ s h)
      refine s7 fun j3 hx3 => ?_
      refine c5 (f9 _ _ _ _ _ _) ?_
      refine d7 h (fun _ h => ?_) (fun _ h => ?_)
      ·exact hx3 _ _ (hj3 (decide (x0 = 215)) H _ I h)
      ·refine c5 (f9 _ _ _ _ _ _) ?_
       refine d7 h (fun _ h => ?_) (fun _ h => ?_)
       ·exact hx3 _ _ (hj3 (decide (x0 = 247)) H _ I h)
       ·refine c5 (f9 _ _ _ _ _ _) ?_
        exact hx3 _ _ (hj3 (decide (x0 = 930)) H _ I h)
    refine s7 fun j2 hx2 => ?_
    refine c5 (f9 _ _ _ _ _ _) ?_
    refine d7 h (fun _ h => ?_) (fun _ h => ?_)
    ·exact hx2 _ _ (hj2 (decide (x0 = 59)) H _ I h)
    ·refine c5 (f9 _ _ _ _ _ _) ?_
     refine d7 h (fun _ h => ?_) (fun _ h => ?_)
     ·exact hx2 _ _ (hj2 (decide (x0 = 44)) H _ I h)
     ·refine c5 (f9 _ _ _ _ _ _) ?_
      refine d7 h (fun _ h => ?_) (fun _ h => ?_)
      ·exact hx2 _ _ (hj2 (decide (x0 = 123)) H _ I h)
      ·refine c5 (f9 _ _ _ _ _ _) ?_
       refine d7 h (fun _ h => ?_) (fun _ h => ?_)
       ·exact hx2 _ _ (hj2 (decide (x0 = 125)) H _ I h)
       ·refine c5 (f9 _ _ _ _ _ _) ?_
        refine d7 h (fun _ h => ?_) (fun _ h => ?_)
        ·exact hx2 _ _ (hj2 (decide (x0 = 40)) H _ I h)
        ·refine c5 (f9 _ _ _ _ _ _) ?_
         refine d7 h (fun _ h => ?_) (fun _ h => ?_)
         ·exact hx2 _ _ (hj2 (decide (x0 = 41)) H _ I h)
         ·refine c5 (f9 _ _ _ _ _ _) ?_
          refine d7 h (fun _ h => ?_) (fun _ h => ?_)
          ·exact hx2 _ _ (hj2 (decide (x0 = 91)) H _ I h)
          ·refine c5 (f9 _ _ _ _ _ _) ?_
           refine d7 h (fun _ h => ?_) (fun _ h => ?_)
           ·exact hx2 _ _ (hj2 (decide (x0 = 93)) H _ I h)
           ·refine c5 (f9 _ _ _ _ _ _) ?_
            refine d7 h (fun _ h => ?_) (fun _ h => ?_)
            ·exact hx2 _ _ (hj2 (decide (x0 = 61)) H _ I h)
            ·refine c5 (f9 _ _ _ _ _ _) ?_
             refine d7 h (fun _ h => ?_) (fun _ h => ?_)
             ·exact hx2 _ _ (hj2 (decide (x0 = 33)) H _ I h)
             ·refine c5 (f9 _ _ _ _ _ _) ?_
              refine d7 h (fun _ h => ?_) (fun _ h => ?_)
              ·exact hx2 _ _ (hj2 (decide (x0 = 60)) H _ I h)
              ·refine c5 (f9 _ _ _ _ _ _) ?_
               refine d7 h (fun _ h => ?_) (fun _ h => ?_)
               ·exact hx2 _ _ (hj2 (decide (x0 = 62)) H _ I h)
               ·refine c5 (f9 _ _ _ _ _ _) ?_
                refine d7 h (fun _ h => ?_) (fun _ h => ?_)
                ·exact hx2 _ _ (hj2 (decide (x0 = 43)) H _ I h)
                ·refine c5 (f9 _ _ _ _ _ _) ?_
                 refine d7 h (fun _ h => ?_) (fun _ h => ?_)
                 ·exact hx2 _ _ (hj2 (decide (x0 = 45)) H _ I h)
                 ·refine c5 (f9 _ _ _ _ _ _) ?_
                  refine d7 h (fun _ h => ?_) (fun _ h => ?_)
                  ·exact hx2 _ _ (hj2 (decide (x0 = 42)) H _ I h)
                  ·refine c5 (f9 _ _ _ _ _ _) ?_
                   refine d7 h (fun _ h => ?_) (fun _ h => ?_)
                   ·exact hx2 _ _ (hj2 (decide (x0 = 47)) H _ I h)
                   ·refine c5 (f9 _ _ _ _ _ _) ?_
                    refine d7 h (fun _ h => ?_) (fun _ h => ?_)
                    ·exact hx2 _ _ (hj2 (decide (x0 = 37)) H _ I h)
                    ·refine c5 (f9 _ _ _ _ _ _) ?_
                     refine d7 h (fun _ h => ?_) (fun _ h => ?_)
                     ·exact hx2 _ _ (hj2 (decide (x0 = 38)) H _ I h)
                     ·refine c5 (f9 _ _ _ _ _ _) ?_
                      exact hx2 _ _ (hj2 (decide (x0 = 124)) H _ I h)
 refine s7 fun j1 hx1 => ?_
 refine c5 (f9 _ _ _ _ _ _) ?_
 refine d7 h (fun _ h => ?_) (fun _ h => ?_)
 ·exact hx1 _ _ (hj1 (decide (x0 = 32)) H _ b h)
 ·refine c5 (f9 _ _ _ _ _ _) ?_
  refine d7 h (fun _ h => ?_) (fun _ h => ?_)
  ·exact hx1 _ _ (hj1 (decide (x0 = 9)) H _ b h)
  ·refine c5 (f9 _ _ _ _ _ _) ?_
   exact hx1 _ _ (hj1 (decide (x0 = 13)) H _ b h)
def M3 (a2o : Int) (a2p : Int) (a2q : Int) (a2r : Bool) (a2s : Bool) (a1M : (List ByteArray)) (H : Hp) (K : Bool → f8 → (List ByteArray) → Hp → Prop) : Prop :=
 K true (f8.mk a2o a2p a2q a2r a2s (Sl.mk none 0 0)) a1M H
def M4 (a9V : Int) (V4 : Sl) (m4 : Int) (W3 : Int) (R8 : Int) (R9 : Int) (S0 : Int) (S1 : Bool) (S2 : Bool) (N8 : (List ByteArray)) (H : Hp) (n2 : (Int × Int × Int × Int × Bool × Bool × (List ByteArray)) → Hp → Prop) (K : Bool → f8 → (List ByteArray) → Hp → Prop) : Prop :=
 (W3 < m4 →
 (0 : Int) ≤ W3 ∧ (W3 : Int) < V4.n ∧ ∃ c : c7, EltH H V4 W3 1 [(u9 c)] ∧
 R6 (f8.mk R8 R9 S0 S1 S2 (Sl.mk none 0 0)) N8 c a9V H (fun b d e f =>
 TG ((!b) = false) (Z9 c f) (Sl.mk none 0 0) f (fun (j : Sl) (g : Hp) =>
 TG ((!b) = false) (fun k_ => K8 j (IntKind.wrap .i64 (a9V + 1)) (N1 d) e g fun k l m H_ => k_ (k, l, m) H_) (false, (N1 d), e) g (fun (a : Bool × f8 × (List ByteArray)) (i : Hp) =>
 (((!b) || (!a.1)) = true →
 K false (f8.mk (a.2.1.fnodes) (a.2.1.fdepth) (a.2.1.fe) (a.2.1.fform) (a.2.1.fnamed) (Sl.mk none 0 0)) a.2.2 i) ∧
 (((!b) || (!a.1)) = false →
 n2 ((IntKind.wrap .i64 (W3 + 1)), (a.2.1.fnodes), (a.2.1.fdepth), (a.2.1.fe), (a.2.1.fform), (a.2.1.fnamed), a.2.2) i))))) ∧
 (¬ (W3 < m4) →
 M3 R8 R9 S0 S1 S2 N8 H K)
def Y4 (x0 : Sl) (x1 : Int) (x2 : f8) (a : (List ByteArray)) (H : Hp) (K : Bool → f8 → (List ByteArray) → Hp → Prop) : Prop :=
 TL ((0, x2.fnodes, x2.fdepth, x2.fe, x2.fform, x2.fnamed, a) : Int × Int × Int × Int × Bool × Bool × (List ByteArray)) H fun (s : Int × Int × Int × Int × Bool × Bool × (List ByteArray)) H n2 => M4 x1 x0 (x0.n : Int) s.1 s.2.1 s.2.2.1 s.2.2.2.1 s.2.2.2.2.1 s.2.2.2.2.2.1 s.2.2.2.2.2.2 H n2 K
theorem a4B (x0 : Sl) (x1 : Int) (x2 : f8) (ai : (List ByteArray)) {H : Hp} {K : Bool → f8 → (List ByteArray) → Hp → Prop} (h : Y4 x0 x1 x2 ai H K) : K8 x0 x1 x2 ai H K := by
 intro g2 g2b g3 az ba bb
 refine Ct.of fun w0 w ps0 H0 R E I hR => b6o ?_
 unfold Y4 at h
 unfold F60
 have hj1 : ∀ (a2o : Int) (a2p : Int) (a2q : Int) (a2r : Bool) (a2s : Bool) (a1M : (List ByteArray)) (a4p : Sl) (a4q : Frag) (H : Hp) (w : World) (_ : RowL 9 1 r9 a4p a1M a4q) (_ : Inv w0 ps0 H0 H [bx g2 117 [(Value.pointer (some ⟨g2b, 0, none⟩))], bx g2b 116 [(vi a2o), (vi a2p), (vi a2q), (Value.bool a2r), (Value.bool a2s), (vs a4p)], bx g3 132 [(Value.func (.func 60) #[] #[(Value.pointer (some ⟨g2, 0, none⟩)), (Value.pointer (some ⟨g3, 0, none⟩))])], a4q] w) (_ : M3 a2o a2p a2q a2r a2s a1M H K), a9E w R E := by
  intro a2o a2p a2q a2r a2s a1M a4p a4q H w b2A I h
  unfold a9E
  intro _
  unfold M3 at h
  exact hR _ H _ _ ((((I.bring 2).bring 3).bring 3).bring 3) ⟨true, (f8.mk a2o a2p a2q a2r a2s (Sl.mk none 0 0)), a1M, a4p, a4q, rfl, rfl, b2A, h⟩
 refine s7 fun j1 hx1 => ?_
 refine c5 (a3s _ _ _) ?_
 obtain ⟨aj, z, bc, bd⟩ := h
 refine E0 (J := fun n l w => ∃ (s : Int × Int × Int × Int × Bool × Bool × (List ByteArray)) (H : Hp) (a2M : Sl) (a2N : Frag) , n = z s ∧ l = (match s with | (W3, R8, R9, S0, S1, S2, N8) => [(vi W3)]) ∧ (match s with | (W3, R8, R9, S0, S1, S2, N8) => RowL 9 1 r9 a2M N8 a2N) ∧ (match s with | (W3, R8, R9, S0, S1, S2, N8) => Inv w0 ps0 H0 H [bx g2 117 [(Value.pointer (some ⟨g2b, 0, none⟩))], bx g2b 116 [(vi R8), (vi R9), (vi S0), (Value.bool S1), (Value.bool S2), (vs a2M)], bx g3 132 [(Value.func (.func 60) #[] #[(Value.pointer (some ⟨g2, 0, none⟩)), (Value.pointer (some ⟨g3, 0, none⟩))])], a2N] w) ∧ aj s H) ⟨_, (0, x2.fnodes, x2.fdepth, x2.fe, x2.fform, x2.fnamed, ai), H, az, ba, rfl, rfl, bb, ((((I.bring 2).bring 3).bring 3).bring 3), bc⟩ ?_
 rintro bj bk w next2 ⟨⟨W3, R8, R9, S0, S1, S2, N8⟩, H, a2M, a2N, rfl, ak, a5Z, I, be⟩ hn2
 dsimp only at ak I a5Z
 simp only [List.map_cons, List.map_nil, List.cons.injEq, and_true] at ak
 have e11 := ak
 simp only [e11]
 obtain ⟨n2, hm2, h⟩ : ∃ n2 : (Int × Int × Int × Int × Bool × Bool × (List ByteArray)) → Hp → Prop, (∀ s' H', n2 s' H' → aj s' H' ∧ z s' < z (W3, R8, R9, S0, S1, S2, N8)) ∧ M4 x1 x0 (x0.n : Int) W3 R8 R9 S0 S1 S2 N8 H n2 K := ⟨_, fun _ _ h => h, bd (W3, R8, R9, S0, S1, S2, N8) H (fun s' H' => aj s' H' ∧ z s' < z (W3, R8, R9, S0, S1, S2, N8)) be (fun _ _ a b => ⟨a, b⟩)⟩
 unfold b2t
 unfold M4 at h
 refine c5 (B7 _ _ _ _ _ _) ?_
 refine d7 h (fun _ h => ?_) (fun _ h => ?_)
 ·obtain ⟨bf, bg, bh, al, h⟩ := h
  obtain ⟨bl, bm, bi, al⟩ := al
  refine c5 (b1X bi _ _ _ _ bf bg) ?_
  refine d3 (ld1 (v := (u9 bh)) Tryd.isAgg126 (I.atH al)) ?_
  refine M9 I fun bn ao => ?_
  refine p5 (l1 Tryd.isAgg117 ao rfl) ?_
  refine f5 Tryd.call61 (h g2b a2M a2N a5Z) ((ao.bring 3).bring 2) ?_
  rintro _ ap _ aq o _ _ ⟨p, aa, am, ac, ad, rfl, rfl, ar, h⟩
  refine f6 (V1 _) ?_
  simp only [Q2]
  refine f6 (Pu.g fun hb => by have c := hb; simp only [m6 c]; with_reducible exact (v2 _ _ _ _ _ _)) ?_
  refine p5 (Ld.g fun hb => by have c := hb; exact (l1 Tryd.isAgg132 (o.bring 3) rfl)) ?_
  refine a7o (D := fun au u => ∃ (ab : Sl) (k : Hp), au = (gv (!p) false (vs ab)) ∧ (Inv w0 ps0 H0 k [bx g2b 116 (O5 aa ac), ad, bx g2 117 [(Value.pointer (some ⟨g2b, 0, none⟩))], bx g3 132 [(Value.func (.func 60) #[] #[(Value.pointer (some ⟨g2, 0, none⟩)), (Value.pointer (some ⟨g3, 0, none⟩))])]] u) ∧ (∀ i, i < aq.heap.size → ¬ inF [] i → u.heap[i]? = aq.heap[i]?) ∧ Hle ap k ∧ (TG ((!p) = false) (fun k_ => K8 ab (IntKind.wrap .i64 (x1 + 1)) (N1 aa) am k fun m d j H_ => k_ (m, d, j) H_) (false, (N1 aa), am) k (fun (e : Bool × f8 × (List ByteArray)) (f : Hp) =>
 (((!p) || (!e.1)) = true →
 K false (f8.mk (e.2.1.fnodes) (e.2.1.fdepth) (e.2.1.fe) (e.2.1.fform) (e.2.1.fnamed) (Sl.mk none 0 0)) e.2.2 f) ∧
 (((!p) || (!e.1)) = false →
 n2 ((IntKind.wrap .i64 (W3 + 1)), (e.2.1.fnodes), (e.2.1.fdepth), (e.2.1.fe), (e.2.1.fform), (e.2.1.fnamed), e.2.2) f)))) (fun y => ?_) (fun y => ?_) ?_
  ·replace h := h.1 y
   have c := y
   simp only [m6 c]
   refine a4z o h (fun ab k u ae av an h => ?_)
   exact ⟨ab, k, by rfl, ae, an, av, h⟩
  ·exact ⟨(Sl.mk none 0 0), ap, by rw [a8S y], o, fun _ _ _ => rfl, Hle.refl _, h.2 y⟩
  ·clear h
   rintro au u ⟨ab, k, rfl, ae, an, av, h⟩
   refine ⟨(an _ (o.bring 3).lt1 (Inv.a1Q (Fi := []) (o.bring 3))), ?_⟩
   refine a7o (D := fun aw af => ∃ (m : Bool) (d : f8) (j : (List ByteArray)) (f : Hp) (q : Sl) (r : Frag) , aw = (gv (!p) false (Value.bool m)) ∧ (RowL 9 1 r9 q j r) ∧ (Inv w0 ps0 H0 f [bx g2 117 [(Value.pointer (some ⟨g2b, 0, none⟩))], bx g2b 116 (O5 d q), r, bx g3 132 [(Value.func (.func 60) #[] #[(Value.pointer (some ⟨g2, 0, none⟩)), (Value.pointer (some ⟨g3, 0, none⟩))])]] af) ∧ (∀ i, i < u.heap.size → ¬ inF [bx g2 117 [(Value.pointer (some ⟨g2b, 0, none⟩))], bx g2b 116 (O5 aa ac), ad, bx g3 132 [(Value.func (.func 60) #[] #[(Value.pointer (some ⟨g2, 0, none⟩)), (Value.pointer (some ⟨g3, 0, none⟩))])]] i → af.heap[i]? = u.heap[i]?) ∧ Hle k f ∧ ((((!p) || (!m)) = true →
 K false (N1 d) j f) ∧
 (((!p) || (!m)) = false →
 n2 ((IntKind.wrap .i64 (W3 + 1)), d.fnodes, d.fdepth, d.fe, d.fform, d.fnamed, j) f))) (fun t => ?_) (fun t => ?_) ?_
   ·replace h := h.1 t
    have c := t
    simp only [m6 c]
    refine a1P (cap := [(Value.pointer (some ⟨g2, 0, none⟩)), (Value.pointer (some ⟨g3, 0, none⟩))]) Tryd.call60 (h g2 g2b g3 ac ad ar) ((((ae.bring 3).bring 2).bring 2).bring 3) ?_
    rintro _ f _ af ag ax ay ⟨m, d, j, q, r, rfl, rfl, ah, h⟩
    exact ⟨m, d, j, f, q, r, by rfl, ah, ag, ay, ax, h⟩
   ·exact ⟨false, (N1 aa), am, k, ac, ad, by rw [a8S t], ar, ((((ae.bring 3).bring 2).bring 2).bring 3), fun _ _ _ => rfl, Hle.refl _, h.2 t⟩
   ·clear h
    rintro aw af ⟨m, d, j, f, q, r, rfl, ah, ag, ay, ax, h⟩
    refine f6 (Pu.g fun hb => by have c := hb; simp only [m6 c]; with_reducible exact (V1 _)) ?_
    refine f6 (a0V _ _) ?_
    refine r7 h (fun _ h => ?_) (fun _ h => ?_)
    ·exact hR _ f _ _ ((((ag.bring 3).bring 3).bring 3).bring 3) ⟨false, (N1 d), j, q, r, rfl, rfl, ah, h⟩
    ·refine c5 (v2 _ _ _ _ _ _) ?_
     exact hn2 _ _ _ (hm2 _ _ h).2 ⟨((IntKind.wrap .i64 (W3 + 1)), d.fnodes, d.fdepth, d.fe, d.fform, d.fnamed, j), f, q, r, rfl, rfl, ah, ((((ag.bring 2).bring 3).bring 3).bring 3), (hm2 _ _ h).1⟩
 ·exact hx1 _ _ (hj1 R8 R9 S0 S1 S2 N8 a2M a2N H _ a5Z ((((I.bring 3).bring 3).bring 3).bring 3) h)
def a0P (x0 : i8) (H : Hp) (K : Int → Hp → Prop) : Prop :=
 (0 < x0.X5 →
 K 2 H) ∧
 (¬ (0 < x0.X5) →
 K 1 H)
theorem a6a (x0 : i8) {H : Hp} {K : Int → Hp → Prop} (h : a0P x0 H K) : a2K x0 H K := by
 refine Ct.of fun w0 w ps0 H0 R E I hR => b5M ?_
 unfold a0P at h
 unfold F27
 refine B8 I (cs := (f7 x0)) rfl fun b c a d => ?_
 refine c5 a3r ?_
 refine d3 (l1 Tryd.isAgg3 a rfl) ?_
 refine c5 (Z6 _ _ _ _ _ _) ?_
 refine d7 h (fun _ h => ?_) (fun _ h => ?_)
 ·exact hR _ H _ _ a.drop ⟨2, rfl, rfl, h⟩
 ·exact hR _ H _ _ a.drop ⟨1, rfl, rfl, h⟩
end Go.Proofs.YtaokfhdinhimfaaDoor
