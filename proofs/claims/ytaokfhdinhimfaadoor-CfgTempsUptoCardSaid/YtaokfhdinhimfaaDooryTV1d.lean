/- Typed formulas of the program's functions, and the theorems that the contracts follow from them; printed by lift.py off the code. -/
import Derived.Test.YtaokfhdinhimfaaDooryTV1
namespace Go.Proofs.YtaokfhdinhimfaaDoor
open Go.RowKit
set_option maxRecDepth 100000
set_option maxHeartbeats 2000000
def a4c (x0 : Int) (H : Hp) (K : Int → Hp → Prop) : Prop :=
 (((decide (x0 < 1)) || (decide (6 < x0))) = true →
 K 0 H) ∧
 (((decide (x0 < 1)) || (decide (6 < x0))) = false →
 (0 : Int) ≤ x0 ∧ (x0 : Int) < 7 ∧
 K (([0, 6, 5, 4, 3, 2, 1] : List Int).getD (x0 : Int).toNat 0) H)
theorem a7e (x0 : Int) {H : Hp} {K : Int → Hp → Prop} (h : a4c x0 H K) : a1F x0 H K := by
 refine Ct.of fun w0 w ps0 H0 R E I hR => b5U ?_
 unfold a4c at h
 unfold F40
 refine c5 (B7 _ _ _ _ _ _) ?_
 simp only [Q2]
 refine c5 (Pu.g fun hb => by have a := hb; simp only [m6 a]; with_reducible exact (Z6 _ _ _ _ _ _)) ?_
 refine c5 (a0V _ _) ?_
 refine r7 h (fun _ h => ?_) (fun _ h => ?_)
 ·exact hR _ H _ _ I ⟨0, rfl, rfl, h⟩
 ·refine c5 (a3O _ _ _ _ _ _ _) ?_
  obtain ⟨b, c, h⟩ := h
  refine c5 (b1a _ _ _ _ _ _ _ _ _ b c) ?_
  exact hR _ H _ _ I ⟨(([0, 6, 5, 4, 3, 2, 1] : List Int).getD (x0 : Int).toNat 0), rfl, rfl, h⟩
def a0s (x0 : o8) (H : Hp) (K : Sl → Int → Hp → Prop) : Prop :=
 a1G x0 2 H (fun a b c =>
 K a b c)
theorem a5B (x0 : o8) {H : Hp} {K : Sl → Int → Hp → Prop} (h : a0s x0 H K) : a1X x0 H K := by
 refine Ct.of fun w0 w ps0 H0 R E I hR => b5D ?_
 unfold a0s at h
 unfold F11
 refine B8 I (cs := (m5 x0)) rfl fun f g a i => ?_
 refine d3 (lW Tryd.isAgg41 Tryd.sizeOf41 rfl a) ?_
 refine f5 Tryd.call18 h a ?_
 rintro _ c _ j d _ _ ⟨e, b, rfl, rfl, h⟩
 refine c5 (g8 _ _ _ rfl) ?_
 refine c5 (g8 _ _ (vi b) rfl) ?_
 exact hR _ c _ _ d.drop ⟨e, b, rfl, rfl, h⟩
def T9 (x0 : d2) (a : (List c8)) (x1 : c8) (H : Hp) (K : d2 → (List c8) → Hp → Prop) : Prop :=
 (a.length + ([x1] : List c8).length) * 81 ≤ 140737488355328 ∧
 K (c6 x0) (a ++ [x1]) H
theorem a3x (x0 : d2) (a : (List c8)) (x1 : c8) {H : Hp} {K : d2 → (List c8) → Hp → Prop} (h : T9 x0 a x1 H K) : o5 x0 a x1 H K := by
 intro g0 f r g
 refine Ct.of fun w0 w ps0 H0 R E I hR => b5Q ?_
 unfold T9 at h
 unfold F31
 refine B8 I (cs := (g9 x1)) rfl fun t u i v => ?_
 refine M9 i fun y b => ?_
 refine f6 (m3 _) ?_
 refine f6 D2 ?_
 refine f6 a0Z ?_
 refine p5 (l1 Tryd.isAgg28 (b.bring 1) rfl) ?_
 refine p5 (lW Tryd.isAgg46 Tryd.sizeOf46 rfl b) ?_
 refine V2 (e := 46) (c := g9) (xs := [x1]) b (b4E _ _ _ _ _ _ _ _ _ _) rfl rfl a2Z a3b (nb rfl) fun z aa ab j d k => ?_
 refine ⟨(k _ (b.bring 1).lt1), ?_⟩
 obtain ⟨l, h⟩ := h
 refine b5z (s := f) (xs := a) (d.bring 3) g (j.srcO ((d.bring 3).bring 1)) l fun m n ac o p ad => ?_
 refine f6 (m3 _) ?_
 refine f6 D2 ?_
 refine f6 a0Z ?_
 refine N0 ((p.bring 1).drop.bring 2) Tryd.sizeOf28 fun ae q af => ?_
 exact hR _ H _ _ (((q.bring 2).drop.bring 1).bring 1) ⟨(c6 x0), (a ++ [x1]), m, n, rfl, rfl, o, h⟩
def Q8 (x0 : d2) (a : (List c8)) (x1 : Sl) (x2 : Int) (H : Hp) (K : Int → d2 → (List c8) → Hp → Prop) : Prop :=
 ((x1.n : Int) = 0 →
 K x2 (c6 x0) a H) ∧
 (¬ ((x1.n : Int) = 0) →
 r6 (c6 x0) a H (fun b c d e =>
 K b (c6 c) d e))
theorem a2U (x0 : d2) (a : (List c8)) (x1 : Sl) (x2 : Int) {H : Hp} {K : Int → d2 → (List c8) → Hp → Prop} (h : Q8 x0 a x1 x2 H K) : D8 x0 a x1 x2 H K := by
 intro g0 b c d
 refine Ct.of fun w0 w ps0 H0 R E I hR => b5R ?_
 unfold Q8 at h
 unfold F32
 refine c5 (U4 _ _ _) ?_
 refine c5 (f9 _ _ _ _ _ _) ?_
 refine d7 h (fun _ h => ?_) (fun _ h => ?_)
 ·exact hR _ H _ _ ((I.bring 1).bring 1) ⟨x2, (c6 x0), a, b, c, rfl, rfl, d, h⟩
 ·refine f5 Tryd.call12 (h g0 b c d) ((I.bring 1).bring 1) ?_
  rintro _ e _ n f _ _ ⟨g, i, j, k, l, rfl, rfl, m, h⟩
  exact hR _ e _ _ ((f.bring 1).bring 1) ⟨g, (c6 i), j, k, l, rfl, rfl, m, h⟩
def U0 (x0 : d2) (b : (List c8)) (x1 : m2) (x2 : Int) (x3 : Int) (x4 : Int) (H : Hp) (K : d2 → (List c8) → Hp → Prop) : Prop :=
 (x1.d5 = 1 →
 B1 x2 x3 1 H (fun r s =>
 o5 (c6 x0) b r s (fun t u v =>
 K (c6 t) u v))) ∧
 (¬ (x1.d5 = 1) →
 (x1.d5 = 2 →
 B1 x2 x4 1 H (fun y z =>
 o5 (c6 x0) b y z (fun aa ab ac =>
 K (c6 aa) ab ac))) ∧
 (¬ (x1.d5 = 2) →
 (x1.d5 = 4 →
 (0 : Int) ≤ 0 ∧ (0 : Int) < x1.o7.n ∧ ∃ c : m2, EltH H x1.o7 0 4 (i4 c) ∧
 p6 (c6 x0) b c x2 x4 x3 H (fun ad ae af =>
 K (c6 ad) ae af)) ∧
 (¬ (x1.d5 = 4) →
 (x1.d5 = 5 →
 r6 (c6 x0) b H (fun d ag ah e =>
 (0 : Int) ≤ 0 ∧ (0 : Int) < x1.o7.n ∧ ∃ f : m2, EltH e x1.o7 0 4 (i4 f) ∧
 p6 (c6 ag) ah f x2 d x4 e (fun ai aj g =>
 (0 : Int) ≤ 1 ∧ (1 : Int) < x1.o7.n ∧ ∃ i : m2, EltH g x1.o7 1 4 (i4 i) ∧
 p6 (c6 ai) aj i d x3 x4 g (fun ak al am =>
 K (c6 ak) al am)))) ∧
 (¬ (x1.d5 = 5) →
 (x1.d5 = 6 →
 r6 (c6 x0) b H (fun j an ao k =>
 (0 : Int) ≤ 0 ∧ (0 : Int) < x1.o7.n ∧ ∃ l : m2, EltH k x1.o7 0 4 (i4 l) ∧
 p6 (c6 an) ao l x2 x3 j k (fun ap aq m =>
 (0 : Int) ≤ 1 ∧ (1 : Int) < x1.o7.n ∧ ∃ o : m2, EltH m x1.o7 1 4 (i4 o) ∧
 p6 (c6 ap) aq o j x3 x4 m (fun ar au av =>
 K (c6 ar) au av)))) ∧
 (¬ (x1.d5 = 6) →
 J3 (c6 x0) b x1.g5 x2 0 H (fun p q aw ax ay az =>
 B1 aw x3 12 az (fun a ba =>
 o5 (c6 ax) ay (c8.mk a.P7 a.fTo a.d5 a.a1D a.Y2 x1.fOp p q) ba (fun bb bc bd =>
 a1F x1.fOp bd (fun be bf =>
 o5 (c6 bb) bc (c8.mk a.P7 x4 a.d5 a.a1D a.Y2 be p q) bf (fun bg bh bi =>
 K (c6 bg) bh bi))))))))))
theorem a3y (x0 : d2) (t : (List c8)) (x1 : m2) (x2 : Int) (x3 : Int) (x4 : Int) {H : Hp} {K : d2 → (List c8) → Hp → Prop} (h : U0 x0 t x1 x2 x3 x4 H K) : p6 x0 t x1 x2 x3 x4 H K := by
 intro g0 e f g
 refine Ct.of fun w0 w ps0 H0 R E I hR => b5S ?_
 unfold U0 at h
 unfold F33
 refine B8 I (cs := (i4 x1)) rfl fun dz ea b eb => ?_
 refine c5 a5e ?_
 refine d3 (l1 Tryd.isAgg3 b rfl) ?_
 refine c5 (f9 _ _ _ _ _ _) ?_
 refine d7 h (fun _ h => ?_) (fun _ h => ?_)
 ·refine f5 Tryd.call29 h b ?_
  rintro _ _ _ ec ab _ _ ⟨ed, rfl, rfl, h⟩
  refine f5 Tryd.call31 (h g0 e f g) ((ab.bring 2).bring 2) ?_
  rintro _ ac _ ee ad _ _ ⟨ae, af, ag, ah, rfl, rfl, ai, h⟩
  exact hR _ ac _ _ (((ad.bring 2).drop.bring 1).bring 1) ⟨(c6 ae), af, ag, ah, rfl, rfl, ai, h⟩
 ·refine c5 (f9 _ _ _ _ _ _) ?_
  refine d7 h (fun _ h => ?_) (fun _ h => ?_)
  ·refine f5 Tryd.call29 h b ?_
   rintro _ _ _ ef aj _ _ ⟨eg, rfl, rfl, h⟩
   refine f5 Tryd.call31 (h g0 e f g) ((aj.bring 2).bring 2) ?_
   rintro _ ak _ eh al _ _ ⟨am, an, ao, ap, rfl, rfl, aq, h⟩
   exact hR _ ak _ _ (((al.bring 2).drop.bring 1).bring 1) ⟨(c6 am), an, ao, ap, rfl, rfl, aq, h⟩
  ·refine c5 (f9 _ _ _ _ _ _) ?_
   refine d7 h (fun _ h => ?_) (fun _ h => ?_)
   ·refine c5 X9 ?_
    refine d3 (l1 Tryd.isAgg36 b rfl) ?_
    obtain ⟨ar, au, av, j, h⟩ := h
    obtain ⟨ei, ej, aw, j⟩ := j
    refine c5 (R5 aw _ _ _ _ ar au) ?_
    refine d3 (ldA (vs := (i4 av)) Tryd.isAgg89 Tryd.sizeOf89 rfl (b.atH j)) ?_
    refine f5 Tryd.call33 (h g0 e f g) ((b.bring 2).bring 2) ?_
    rintro _ ax _ ek ay _ _ ⟨az, ba, bb, bc, rfl, rfl, bd, h⟩
    exact hR _ ax _ _ (((ay.bring 2).drop.bring 1).bring 1) ⟨(c6 az), ba, bb, bc, rfl, rfl, bd, h⟩
   ·refine c5 (f9 _ _ _ _ _ _) ?_
    refine d7 h (fun _ h => ?_) (fun _ h => ?_)
    ·refine f5 Tryd.call12 (h g0 e f g) ((b.bring 2).bring 2) ?_
     rintro _ _ _ el k _ _ ⟨em, en, eo, be, bf, rfl, rfl, bg, h⟩
     refine c5 X9 ?_
     refine d3 (l1 Tryd.isAgg36 (k.bring 2) rfl) ?_
     obtain ⟨bh, bi, bj, l, h⟩ := h
     obtain ⟨ep, eq, bk, l⟩ := l
     refine c5 (R5 bk _ _ _ _ bh bi) ?_
     refine d3 (ldA (vs := (i4 bj)) Tryd.isAgg89 Tryd.sizeOf89 rfl (k.atH l)) ?_
     refine f5 Tryd.call33 (h g0 be bf bg) ((k.bring 1).bring 1) ?_
     rintro _ _ _ er m _ _ ⟨es, et, bl, bm, rfl, rfl, bn, h⟩
     refine c5 X9 ?_
     refine d3 (l1 Tryd.isAgg36 (m.bring 2) rfl) ?_
     obtain ⟨bo, bp, bq, n, h⟩ := h
     obtain ⟨eu, ev, br, n⟩ := n
     refine c5 (R5 br _ _ _ _ bo bp) ?_
     refine d3 (ldA (vs := (i4 bq)) Tryd.isAgg89 Tryd.sizeOf89 rfl (m.atH n)) ?_
     refine f5 Tryd.call33 (h g0 bl bm bn) ((m.bring 1).bring 1) ?_
     rintro _ bs _ ew bt _ _ ⟨bu, bv, bw, bz, rfl, rfl, ca, h⟩
     exact hR _ bs _ _ (((bt.bring 2).drop.bring 1).bring 1) ⟨(c6 bu), bv, bw, bz, rfl, rfl, ca, h⟩
    ·refine c5 (f9 _ _ _ _ _ _) ?_
     refine d7 h (fun _ h => ?_) (fun _ h => ?_)
     ·refine f5 Tryd.call12 (h g0 e f g) ((b.bring 2).bring 2) ?_
      rintro _ _ _ ex p _ _ ⟨ey, ez, fa, cb, cc, rfl, rfl, cd, h⟩
      refine c5 X9 ?_
      refine d3 (l1 Tryd.isAgg36 (p.bring 2) rfl) ?_
      obtain ⟨ce, cf, cg, q, h⟩ := h
      obtain ⟨fb, fc, ch, q⟩ := q
      refine c5 (R5 ch _ _ _ _ ce cf) ?_
      refine d3 (ldA (vs := (i4 cg)) Tryd.isAgg89 Tryd.sizeOf89 rfl (p.atH q)) ?_
      refine f5 Tryd.call33 (h g0 cb cc cd) ((p.bring 1).bring 1) ?_
      rintro _ _ _ fd r _ _ ⟨fe, ff, ci, cj, rfl, rfl, ck, h⟩
      refine c5 X9 ?_
      refine d3 (l1 Tryd.isAgg36 (r.bring 2) rfl) ?_
      obtain ⟨cl, cm, cn, s, h⟩ := h
      obtain ⟨fg, fh, co, s⟩ := s
      refine c5 (R5 co _ _ _ _ cl cm) ?_
      refine d3 (ldA (vs := (i4 cn)) Tryd.isAgg89 Tryd.sizeOf89 rfl (r.atH s)) ?_
      refine f5 Tryd.call33 (h g0 ci cj ck) ((r.bring 1).bring 1) ?_
      rintro _ cp _ fi cq _ _ ⟨cr, ct, cu, cv, rfl, rfl, cw, h⟩
      exact hR _ cp _ _ (((cq.bring 2).drop.bring 1).bring 1) ⟨(c6 cr), ct, cu, cv, rfl, rfl, cw, h⟩
     ·refine c5 a3q ?_
      refine d3 (l1 Tryd.isAgg23 b rfl) ?_
      refine f5 Tryd.call30 (h g0 e f g) ((b.bring 2).bring 2) ?_
      rintro _ _ _ fj cx _ _ ⟨c, d, cy, fk, fl, cz, da, rfl, rfl, db, h⟩
      refine c5 (g8 _ _ _ rfl) ?_
      refine c5 (g8 _ _ _ rfl) ?_
      refine c5 (g8 _ _ (vi cy) rfl) ?_
      refine o9 cx Tryd.zeroValue44 (cs := [(vi 0), (vi 0)]) rfl fun fm fn dc fo => ?_
      refine o9 dc Tryd.zeroValue44 (cs := [(vi 0), (vi 0)]) rfl fun fp fq dd fs => ?_
      refine s8 (dd.bring 1) Tryd.sizeOf44 (vs := (m1 c)) fun ft de fu => ?_
      refine s8 (de.bring 1) Tryd.sizeOf44 (vs := (m1 d)) fun fv df fw => ?_
      refine f5 Tryd.call29 h df ?_
      rintro _ _ _ fx dg _ _ ⟨a, rfl, rfl, h⟩
      refine o9 dg Tryd.zeroValue46 (cs := [(vi 0), (vi 0), (vi 0), (vi 0), (vi 0), (vi 0), (vi 0), (vi 0), (vi 0), (vi 0)]) rfl fun fy fz dh ga => ?_
      refine s8 dh Tryd.sizeOf46 (vs := (g9 a)) fun gb di gc => ?_
      refine M9 di fun gd i => ?_
      refine f6 a1W ?_
      refine p5 (l1 Tryd.isAgg3 (i.bring 5) rfl) ?_
      refine f6 a7v ?_
      refine p5 (lW Tryd.isAgg44 Tryd.sizeOf44 rfl (i.bring 2)) ?_
      refine p5 (lW Tryd.isAgg44 Tryd.sizeOf44 rfl (i.bring 1)) ?_
      refine N0 i Tryd.sizeOf3 fun ge u v => ?_
      refine ⟨(v _ (Inv.a8U ((i.bring 1).bring 1))), (v _ (Inv.a8U ((i.bring 2).bring 1))), ?_⟩
      refine f6 a1V ?_
      refine U5 u Tryd.sizeOf44 (vs := (m1 c)) (cs' := [(vi a.P7), (vi a.fTo), (vi a.d5), (vi a.a1D), (vi a.Y2), (vi x1.fOp), (vi c.E7), (vi c.v8), (vi a.fB.E7), (vi a.fB.v8)]) rfl rfl (nb rfl) rfl rfl fun gf dj dk => ?_
      refine ⟨(dk _ (Inv.a8U ((u.bring 1).bring 1))), ?_⟩
      refine f6 a5d ?_
      refine U5 dj Tryd.sizeOf44 (vs := (m1 d)) (cs' := [(vi a.P7), (vi a.fTo), (vi a.d5), (vi a.a1D), (vi a.Y2), (vi x1.fOp), (vi c.E7), (vi c.v8), (vi d.E7), (vi d.v8)]) rfl rfl (nb rfl) rfl rfl fun gg y gh => ?_
      refine d3 (ldA Tryd.isAgg46 Tryd.sizeOf46 rfl (y.at1 (o := 0) (vs := [(vi a.P7), (vi a.fTo), (vi a.d5), (vi a.a1D), (vi a.Y2), (vi x1.fOp), (vi c.E7), (vi c.v8), (vi d.E7), (vi d.v8)]) (nb rfl) rfl)) ?_
      refine f5 Tryd.call31 (h g0 cz da db) ((y.bring 4).bring 4) ?_
      rintro _ _ _ gi z _ _ ⟨gj, gk, dl, dm, rfl, rfl, dn, h⟩
      refine c5 a1W ?_
      refine d3 (l1 Tryd.isAgg3 (z.bring 5) rfl) ?_
      refine f5 Tryd.call40 h z ?_
      rintro _ _ _ gl dp _ _ ⟨dq, rfl, rfl, h⟩
      refine c5 b0Y ?_
      refine N0 (dp.bring 2) Tryd.sizeOf3 fun gm dr gn => ?_
      refine c5 a7v ?_
      refine N0 dr Tryd.sizeOf3 fun go aa gp => ?_
      refine d3 (ldA Tryd.isAgg46 Tryd.sizeOf46 rfl (aa.at1 (o := 0) (vs := [(vi a.P7), (vi x4), (vi a.d5), (vi a.a1D), (vi a.Y2), (vi dq), (vi c.E7), (vi c.v8), (vi d.E7), (vi d.v8)]) (nb rfl) rfl)) ?_
      refine f5 Tryd.call31 (h g0 dl dm dn) ((aa.bring 2).bring 2) ?_
      rintro _ ds _ gq dt _ _ ⟨du, dv, dw, dx, rfl, rfl, dy, h⟩
      exact hR _ ds _ _ ((((((dt.bring 2).drop.bring 2).drop.bring 2).drop.bring 2).drop.bring 1).bring 1) ⟨(c6 du), dv, dw, dx, rfl, rfl, dy, h⟩
def J0 (b4e : (List Int)) (b4f : Sl) (b4g : Int) (R4 : Int) (N9 : Sl) (O0 : Int) (O1 : Sl) (O2 : Int) (O3 : Int) (L1 : (List c8)) (X2 : (Option Nat)) (X3 : (Option Nat)) (H : Hp) (n2 : (Int × Sl × Int × Sl × Int × Int × (List c8) × (Option Nat) × (Option Nat)) → Hp → Prop) (K : d2 → (List c8) → Hp → Prop) : Prop :=
 (R4 < b4g →
 (0 : Int) ≤ R4 ∧ (R4 : Int) < b4f.n ∧ ∃ b : l9, EltH H b4f R4 6 (l0 b) ∧
 (0 : Int) ≤ R4 ∧ ∃ c : Int, (b4e)[(R4 : Int).toNat]? = some c ∧
 (0 : Int) ≤ IntKind.wrap .i64 (R4 + 1) ∧ ∃ d : Int, (b4e)[(IntKind.wrap .i64 (R4 + 1) : Int).toNat]? = some d ∧
 T3 (d2.mk (D3.mk N9 O0 O1 O2 O3 (Sl.mk none 0 0)) X2 X3) L1 b c d H (fun a e f =>
 n2 ((IntKind.wrap .i64 (R4 + 1)), a.fc.u6, a.fc.C5, a.fc.z8, a.fc.y1, a.fc.B5, e, a.fvars, a.farrays) f)) ∧
 (¬ (R4 < b4g) →
 K (d2.mk (D3.mk N9 O0 O1 O2 O3 (Sl.mk none 0 0)) X2 X3) L1 H)
def J1 (b6O : Sl) (a3e : Int) (a4r : (List Int)) (J4 : Sl) (J5 : Int) (J6 : Sl) (J7 : Int) (J8 : Int) (G4 : (List c8)) (E1 : (Option Nat)) (D7 : (Option Nat)) (H : Hp) (K : d2 → (List c8) → Hp → Prop) : Prop :=
 (a4r.length + ([a3e] : List Int).length) * 9 ≤ 140737488355328 ∧
 TL ((0, J4, J5, J6, J7, J8, G4, E1, D7) : Int × Sl × Int × Sl × Int × Int × (List c8) × (Option Nat) × (Option Nat)) H fun (s : Int × Sl × Int × Sl × Int × Int × (List c8) × (Option Nat) × (Option Nat)) H n2 => J0 (a4r ++ [a3e]) b6O (b6O.n : Int) s.1 s.2.1 s.2.2.1 s.2.2.2.1 s.2.2.2.2.1 s.2.2.2.2.2.1 s.2.2.2.2.2.2.1 s.2.2.2.2.2.2.2.1 s.2.2.2.2.2.2.2.2 H n2 K
def J2 (b8e : Sl) (b8f : Int) (b4h : Int) (Z3 : (List Int)) (a0I : Int) (L4 : Sl) (L5 : Int) (L6 : Sl) (L8 : Int) (L9 : Int) (K2 : (List c8)) (U9 : (Option Nat)) (V0 : (Option Nat)) (H : Hp) (n3 : ((List Int) × Int × Sl × Int × Sl × Int × Int × (List c8) × (Option Nat) × (Option Nat)) → Hp → Prop) (K : d2 → (List c8) → Hp → Prop) : Prop :=
 (a0I < b4h →
 r6 (d2.mk (D3.mk L4 L5 L6 L8 L9 (Sl.mk none 0 0)) U9 V0) K2 H (fun b a c d =>
 (Z3.length + ([b] : List Int).length) * 9 ≤ 140737488355328 ∧
 n3 ((Z3 ++ [b]), (IntKind.wrap .i64 (a0I + 1)), a.fc.u6, a.fc.C5, a.fc.z8, a.fc.y1, a.fc.B5, c, a.fvars, a.farrays) d)) ∧
 (¬ (a0I < b4h) →
 J1 b8e b8f Z3 L4 L5 L6 L8 L9 K2 U9 V0 H K)
def S8 (x0 : d2) (a : (List c8)) (x1 : Sl) (x2 : Int) (x3 : Int) (H : Hp) (K : d2 → (List c8) → Hp → Prop) : Prop :=
 ((x1.n : Int) = 0 →
 K (c6 x0) a H) ∧
 (¬ ((x1.n : Int) = 0) →
 TL (([x2], 0, x0.fc.u6, x0.fc.C5, x0.fc.z8, x0.fc.y1, x0.fc.B5, a, x0.fvars, x0.farrays) : (List Int) × Int × Sl × Int × Sl × Int × Int × (List c8) × (Option Nat) × (Option Nat)) H fun (s : (List Int) × Int × Sl × Int × Sl × Int × Int × (List c8) × (Option Nat) × (Option Nat)) H n3 => J2 x1 x3 (IntKind.wrap .i64 ((x1.n : Int) - 1)) s.1 s.2.1 s.2.2.1 s.2.2.2.1 s.2.2.2.2.1 s.2.2.2.2.2.1 s.2.2.2.2.2.2.1 s.2.2.2.2.2.2.2.1 s.2.2.2.2.2.2.2.2.1 s.2.2.2.2.2.2.2.2.2 H n3 K)
theorem a3i (x0 : d2) (k : (List c8)) (x1 : Sl) (x2 : Int) (x3 : Int) {H : Hp} {K : d2 → (List c8) → Hp → Prop} (h : S8 x0 k x1 x2 x3 H K) : B9 x0 k x1 x2 x3 H K := by
 intro g0 z aa ab
 refine Ct.of fun w0 w ps0 H0 R E I hR => b5F ?_
 unfold S8 at h
 unfold F13
 refine c5 (U4 _ _ _) ?_
 refine c5 (f9 _ _ _ _ _ _) ?_
 refine d7 h (fun _ h => ?_) (fun _ h => ?_)
 ·exact hR _ H _ _ ((I.bring 1).bring 1) ⟨(c6 x0), k, z, aa, rfl, rfl, ab, h⟩
 ·refine V2 (e := 3) (c := a1z) (xs := [x2]) I (a7P _) rfl rfl a6Z a7a (nb rfl) fun ak al cb am an cc => ?_
  have hj1 : ∀ (a4r : (List Int)) (J4 : Sl) (J5 : Int) (J6 : Sl) (J7 : Int) (J8 : Int) (G4 : (List c8)) (E1 : (Option Nat)) (D7 : (Option Nat)) (a8J : Sl) (Fs8j1 : Frag) (Q0 : Sl) (Q1 : Frag) (H : Hp) (w : World) (_ : RowL 3 1 a1z a8J a4r Fs8j1) (_ : RowL 46 10 g9 Q0 G4 Q1) (_ : Inv w0 ps0 H0 H [bx g0 59 [(vs J4), (vi J5), (vs J6), (vi J7), (vi J8), (vs Q0), (Value.map E1), (Value.map D7)], Fs8j1, Q1] w) (_ : J1 x1 x3 a4r J4 J5 J6 J7 J8 G4 E1 D7 H K), a9n (Value.pointer (some ⟨g0, 0, none⟩)) (vs x1) (vi x3) (vs a8J) w R E := by
   intro a4r J4 J5 J6 J7 J8 G4 E1 D7 a8J Fs8j1 Q0 Q1 H w b7T a5l I h
   unfold a9n
   intro _
   unfold J1 at h
   refine V2 (e := 3) (c := a1z) (xs := [x3]) I (a7P _) rfl rfl a6Z a7a (nb rfl) fun cd ce cf ao ac cg => ?_
   obtain ⟨ap, h⟩ := h
   refine b1Q (s := a8J) (xs := a4r) (ac.bring 2) b7T (ao.srcO ((ac.bring 2).bring 1)) ap fun ch aq ci g ar cj => ?_
   refine c5 (U4 _ _ _) ?_
   obtain ⟨o, i, au, av⟩ := h
   refine E0 (J := fun n l w => ∃ (s : Int × Sl × Int × Sl × Int × Int × (List c8) × (Option Nat) × (Option Nat)) (H : Hp) (a2f : Sl) (a2g : Frag) , n = i s ∧ l = (match s with | (R4, N9, O0, O1, O2, O3, L1, X2, X3) => [(vi R4)]) ∧ (match s with | (R4, N9, O0, O1, O2, O3, L1, X2, X3) => RowL 46 10 g9 a2f L1 a2g) ∧ (match s with | (R4, N9, O0, O1, O2, O3, L1, X2, X3) => Inv w0 ps0 H0 H [bx g0 59 [(vs N9), (vi O0), (vs O1), (vi O2), (vi O3), (vs a2f), (Value.map X2), (Value.map X3)], aq, a2g] w) ∧ o s H) ⟨_, (0, J4, J5, J6, J7, J8, G4, E1, D7), H, Q0, Q1, rfl, rfl, a5l, ((((ar.bring 1).drop.bring 2).bring 1).bring 2), au⟩ ?_
   rintro ck cl w next2 ⟨⟨R4, N9, O0, O1, O2, O3, L1, X2, X3⟩, H, a2f, a2g, rfl, p, a5C, I, aw⟩ hn2
   dsimp only at p I a5C
   simp only [List.map_cons, List.map_nil, List.cons.injEq, and_true] at p
   have e33 := p
   simp only [e33]
   obtain ⟨n2, hm2, h⟩ : ∃ n2 : (Int × Sl × Int × Sl × Int × Int × (List c8) × (Option Nat) × (Option Nat)) → Hp → Prop, (∀ s' H', n2 s' H' → o s' H' ∧ i s' < i (R4, N9, O0, O1, O2, O3, L1, X2, X3)) ∧ J0 (a4r ++ [x3]) x1 (x1.n : Int) R4 N9 O0 O1 O2 O3 L1 X2 X3 H n2 K := ⟨_, fun _ _ h => h, av (R4, N9, O0, O1, O2, O3, L1, X2, X3) H (fun s' H' => o s' H' ∧ i s' < i (R4, N9, O0, O1, O2, O3, L1, X2, X3)) aw (fun _ _ a b => ⟨a, b⟩)⟩
   unfold b2a
   unfold J0 at h
   refine c5 (B7 _ _ _ _ _ _) ?_
   refine d7 h (fun _ h => ?_) (fun _ h => ?_)
   ·obtain ⟨ax, ay, ad, q, h⟩ := h
    obtain ⟨cm, cn, az, q⟩ := q
    refine c5 (a6Y az _ _ _ _ ax ay) ?_
    refine d3 (ldA (vs := (l0 ad)) Tryd.isAgg39 Tryd.sizeOf39 rfl (I.atH q)) ?_
    refine o9 I Tryd.zeroValue39 (cs := [(vi 0), (Value.string ⟨#[]⟩), (Value.slice none 0 0), (Value.slice none 0 0), (Value.slice none 0 0), (Value.slice none 0 0)]) rfl fun co cp ba cq => ?_
    refine s8 ba Tryd.sizeOf39 (vs := (l0 ad)) fun cr bb ct => ?_
    refine M9 bb fun cu m => ?_
    obtain ⟨ae, bc, r, h⟩ := h
    obtain ⟨cv, cw, af, cx⟩ := g.addr r
    refine f6 (a9b af _ _ _ _ ae (g.lt ae r)) ?_
    refine f6 (v2 _ _ _ _ _ _) ?_
    obtain ⟨ag, bd, t, h⟩ := h
    obtain ⟨cy, cz, ah, da⟩ := g.addr t
    refine f6 (a9b ah _ _ _ _ ag (g.lt ag t)) ?_
    refine p5 (lW Tryd.isAgg39 Tryd.sizeOf39 rfl m) ?_
    refine p5 (ld1 (v := (vi bc)) Tryd.isAgg3 (g.atW (m.bring 2) af r)) ?_
    refine p5 (ld1 (v := (vi bd)) Tryd.isAgg3 (g.atW (m.bring 2) ah t)) ?_
    refine f5 Tryd.call19 (h g0 a2f a2g a5C) ((m.bring 3).bring 2) ?_
    rintro _ be _ db bf _ _ ⟨d, bg, bh, bi, rfl, rfl, bj, h⟩
    refine c5 (v2 _ _ _ _ _ _) ?_
    exact hn2 _ _ _ (hm2 _ _ h).2 ⟨((IntKind.wrap .i64 (R4 + 1)), d.fc.u6, d.fc.C5, d.fc.z8, d.fc.y1, d.fc.B5, bg, d.fvars, d.farrays), be, bh, bi, rfl, rfl, bj, ((((bf.bring 2).drop.bring 1).bring 2).bring 2), (hm2 _ _ h).1⟩
   ·exact hR _ H _ _ (((I.bring 1).drop.bring 1).bring 1) ⟨(d2.mk (D3.mk N9 O0 O1 O2 O3 (Sl.mk none 0 0)) X2 X3), L1, a2f, a2g, rfl, rfl, a5C, h⟩
  refine s7 fun j1 hx1 => ?_
  refine c5 (U4 _ _ _) ?_
  refine c5 (a4G _ _ _ _ _ _) ?_
  obtain ⟨u, j, bk, bl⟩ := h
  refine E0 (J := fun n l w => ∃ (s : (List Int) × Int × Sl × Int × Sl × Int × Int × (List c8) × (Option Nat) × (Option Nat)) (H : Hp) (a7F : Sl) (Fs8l3 : Frag) (a2h : Sl) (a2i : Frag) , n = j s ∧ l = (match s with | (Z3, a0I, L4, L5, L6, L8, L9, K2, U9, V0) => [(vs a7F), (vi a0I)]) ∧ (match s with | (Z3, a0I, L4, L5, L6, L8, L9, K2, U9, V0) => RowL 3 1 a1z a7F Z3 Fs8l3) ∧ (match s with | (Z3, a0I, L4, L5, L6, L8, L9, K2, U9, V0) => RowL 46 10 g9 a2h K2 a2i) ∧ (match s with | (Z3, a0I, L4, L5, L6, L8, L9, K2, U9, V0) => Inv w0 ps0 H0 H [bx g0 59 [(vs L4), (vi L5), (vs L6), (vi L8), (vi L9), (vs a2h), (Value.map U9), (Value.map V0)], Fs8l3, a2i] w) ∧ u s H) ⟨_, ([x2], 0, x0.fc.u6, x0.fc.C5, x0.fc.z8, x0.fc.y1, x0.fc.B5, k, x0.fvars, x0.farrays), H, ak, al, z, aa, rfl, rfl, am, ab, (((an.bring 2).bring 1).bring 2), bk⟩ ?_
  rintro dc dd w next3 ⟨⟨Z3, a0I, L4, L5, L6, L8, L9, K2, U9, V0⟩, H, a7F, Fs8l3, a2h, a2i, rfl, y, b1o, a5D, I, bm⟩ hn3
  dsimp only at y I b1o a5D
  simp only [List.map_cons, List.map_nil, List.cons.injEq, and_true] at y
  obtain ⟨e8, e19⟩ := y
  simp only [e8, e19]
  obtain ⟨n3, hm3, h⟩ : ∃ n3 : ((List Int) × Int × Sl × Int × Sl × Int × Int × (List c8) × (Option Nat) × (Option Nat)) → Hp → Prop, (∀ s' H', n3 s' H' → u s' H' ∧ j s' < j (Z3, a0I, L4, L5, L6, L8, L9, K2, U9, V0)) ∧ J2 x1 x3 (IntKind.wrap .i64 ((x1.n : Int) - 1)) Z3 a0I L4 L5 L6 L8 L9 K2 U9 V0 H n3 K := ⟨_, fun _ _ h => h, bl (Z3, a0I, L4, L5, L6, L8, L9, K2, U9, V0) H (fun s' H' => u s' H' ∧ j s' < j (Z3, a0I, L4, L5, L6, L8, L9, K2, U9, V0)) bm (fun _ _ a b => ⟨a, b⟩)⟩
  unfold b2b
  unfold J2 at h
  refine c5 (B7 _ _ _ _ _ _) ?_
  refine d7 h (fun _ h => ?_) (fun _ h => ?_)
  ·refine f5 Tryd.call12 (h g0 a2h a2i a5D) ((I.bring 2).bring 1) ?_
   rintro _ bn _ de bo _ _ ⟨ai, f, bp, bq, br, rfl, rfl, bs, h⟩
   refine V2 (e := 3) (c := a1z) (xs := [ai]) bo (a7P _) rfl rfl a6Z a7a (nb rfl) fun df dg dh bt aj di => ?_
   obtain ⟨bu, h⟩ := h
   refine b1Q (s := a7F) (xs := Z3) (aj.bring 3) b1o (bt.srcO ((aj.bring 3).bring 1)) bu fun bv bw dj bz ca dk => ?_
   refine c5 (v2 _ _ _ _ _ _) ?_
   exact hn3 _ _ _ (hm3 _ _ h).2 ⟨((Z3 ++ [ai]), (IntKind.wrap .i64 (a0I + 1)), f.fc.u6, f.fc.C5, f.fc.z8, f.fc.y1, f.fc.B5, bp, f.fvars, f.farrays), bn, bv, bw, bq, br, rfl, rfl, bz, bs, ((((ca.bring 1).drop.bring 2).bring 1).bring 2), (hm3 _ _ h).1⟩
  ·exact hx1 _ _ (hj1 Z3 L4 L5 L6 L8 L9 K2 U9 V0 a7F Fs8l3 a2h a2i H _ b1o a5D (((I.bring 2).bring 2).bring 2) h)
def p9 (N6 : (List c7)) (H : Hp) (K : Sl → Hp → Prop) : Prop :=
 ∀ (z7 : Sl) (a : Hp), Hle H a → SlH a 1 j8 z7 N6 → z7.n ≤ z7.c →
 K z7 a
def q5 (T8 : Sl) (V4 : Int) (o6 : (List c7)) (m4 : Int) (H : Hp) (n2 : ((List c7) × Int) → Hp → Prop) (K : Sl → Hp → Prop) : Prop :=
 (m4 < V4 →
 (0 : Int) ≤ m4 ∧ (m4 : Int) < T8.n ∧ ∃ a : i8, EltH H T8 m4 2 (f7 a) ∧
 a1Y a H (fun b c =>
 (o6.length + ([b] : List c7).length) * 17 ≤ 140737488355328 ∧
 n2 ((o6 ++ [b]), (IntKind.wrap .i64 (m4 + 1))) c)) ∧
 (¬ (m4 < V4) →
 p9 o6 H K)
def y6 (x0 : Sl) (H : Hp) (K : Sl → Hp → Prop) : Prop :=
 TL (([], 0) : (List c7) × Int) H fun (s : (List c7) × Int) H n2 => q5 x0 (x0.n : Int) s.1 s.2 H n2 K
theorem P2 (x0 : Sl) {H : Hp} {K : Sl → Hp → Prop} (h : y6 x0 H K) : y3 x0 H K := by
 refine Ct.of fun w0 w ps0 H0 R E I hR => b6k ?_
 unfold y6 at h
 unfold F56
 have hj1 : ∀ (N6 : (List c7)) (z7 : Sl) (Fs5j1 : Frag) (H : Hp) (w : World) (_ : RowL 126 1 j8 z7 N6 Fs5j1) (_ : Inv w0 ps0 H0 H [Fs5j1] w) (_ : p9 N6 H K), a9C (vs z7) w R E := by
  intro N6 z7 Fs5j1 H w a5n I h
  unfold a9C
  intro _
  unfold p9 at h
  obtain ⟨j, q, r, t, u⟩ := Inv.freezeC I a5n (by decide)
  replace h := h z7 j r t u
  exact hR _ j _ _ q ⟨z7, rfl, rfl, h⟩
 refine s7 fun j1 hx1 => ?_
 refine c5 (a4m _ _ _) ?_
 obtain ⟨f, d, v, y⟩ := h
 refine E0 (J := fun n l w => ∃ (s : (List c7) × Int) (H : Hp) (N7 : Sl) (Fs5l2 : Frag) , n = d s ∧ l = (match s with | (o6, m4) => [(vs N7), (vi m4)]) ∧ (match s with | (o6, m4) => RowL 126 1 j8 N7 o6 Fs5l2) ∧ (match s with | (o6, m4) => Inv w0 ps0 H0 H [Fs5l2] w) ∧ f s H) ⟨_, ([], 0), H, (Sl.mk none 0 0), [], rfl, rfl, (RowL.nil D4 G1), I.nil, v⟩ ?_
 rintro am an w next2 ⟨⟨o6, m4⟩, H, N7, Fs5l2, rfl, g, a0m, I, z⟩ hn2
 dsimp only at g I a0m
 simp only [List.map_cons, List.map_nil, List.cons.injEq, and_true] at g
 obtain ⟨e5, e10⟩ := g
 simp only [e5, e10]
 obtain ⟨n2, hm2, h⟩ : ∃ n2 : ((List c7) × Int) → Hp → Prop, (∀ s' H', n2 s' H' → f s' H' ∧ d s' < d (o6, m4)) ∧ q5 x0 (x0.n : Int) o6 m4 H n2 K := ⟨_, fun _ _ h => h, y (o6, m4) H (fun s' H' => f s' H' ∧ d s' < d (o6, m4)) z (fun _ _ a b => ⟨a, b⟩)⟩
 unfold b2r
 unfold q5 at h
 refine c5 (B7 _ _ _ _ _ _) ?_
 refine d7 h (fun _ h => ?_) (fun _ h => ?_)
 ·obtain ⟨aa, ab, k, i, h⟩ := h
  obtain ⟨ao, ap, ac, i⟩ := i
  refine c5 (a1E ac _ _ _ _ aa ab) ?_
  refine d3 (ldA (vs := (f7 k)) Tryd.isAgg35 Tryd.sizeOf35 rfl (I.atH i)) ?_
  refine o9 I Tryd.zeroValue35 (cs := [(Value.string ⟨#[]⟩), (vi 0)]) rfl fun aq ar ad au => ?_
  refine s8 ad Tryd.sizeOf35 (vs := (f7 k)) fun av m aw => ?_
  refine d3 (lW Tryd.isAgg35 Tryd.sizeOf35 rfl m) ?_
  refine f5 Tryd.call57 h m ?_
  rintro _ ae _ ax af _ _ ⟨o, rfl, rfl, h⟩
  refine V2 (e := 126) (c := j8) (xs := [o]) af (a5h _) rfl rfl D4 G1 (nb rfl) fun ay az ba ag p bb => ?_
  obtain ⟨ah, h⟩ := h
  refine a4I (s := N7) (xs := o6) (p.bring 2) a0m (ag.srcO ((p.bring 2).bring 1)) ah fun ai aj bc ak al bd => ?_
  refine c5 (v2 _ _ _ _ _ _) ?_
  exact hn2 _ _ _ (hm2 _ _ h).2 ⟨((o6 ++ [o]), (IntKind.wrap .i64 (m4 + 1))), ae, ai, aj, rfl, rfl, ak, ((al.bring 1).drop.bring 1).drop, (hm2 _ _ h).1⟩
 ·exact hx1 _ _ (hj1 o6 N7 Fs5l2 H _ a0m I h)
def q6 (N6 : (List c7)) (H : Hp) (K : Sl → Hp → Prop) : Prop :=
 ∀ (z7 : Sl) (a : Hp), Hle H a → SlH a 1 j8 z7 N6 → z7.n ≤ z7.c →
 K z7 a
def q7 (T8 : Sl) (V4 : Int) (o6 : (List c7)) (m4 : Int) (H : Hp) (n2 : ((List c7) × Int) → Hp → Prop) (K : Sl → Hp → Prop) : Prop :=
 (m4 < V4 →
 (0 : Int) ≤ m4 ∧ (m4 : Int) < T8.n ∧ ∃ a : l9, EltH H T8 m4 6 (l0 a) ∧
 a1Z a H (fun b c =>
 (o6.length + ([b] : List c7).length) * 17 ≤ 140737488355328 ∧
 n2 ((o6 ++ [b]), (IntKind.wrap .i64 (m4 + 1))) c)) ∧
 (¬ (m4 < V4) →
 q6 o6 H K)
def y7 (x0 : Sl) (H : Hp) (K : Sl → Hp → Prop) : Prop :=
 TL (([], 0) : (List c7) × Int) H fun (s : (List c7) × Int) H n2 => q7 x0 (x0.n : Int) s.1 s.2 H n2 K
theorem P3 (x0 : Sl) {H : Hp} {K : Sl → Hp → Prop} (h : y7 x0 H K) : m8 x0 H K := by
 refine Ct.of fun w0 w ps0 H0 R E I hR => b6m ?_
 unfold y7 at h
 unfold F58
 have hj1 : ∀ (N6 : (List c7)) (z7 : Sl) (Fs5j1 : Frag) (H : Hp) (w : World) (_ : RowL 126 1 j8 z7 N6 Fs5j1) (_ : Inv w0 ps0 H0 H [Fs5j1] w) (_ : q6 N6 H K), a9D (vs z7) w R E := by
  intro N6 z7 Fs5j1 H w a5n I h
  unfold a9D
  intro _
  unfold q6 at h
  obtain ⟨j, q, r, t, u⟩ := Inv.freezeC I a5n (by decide)
  replace h := h z7 j r t u
  exact hR _ j _ _ q ⟨z7, rfl, rfl, h⟩
 refine s7 fun j1 hx1 => ?_
 refine c5 (U4 _ _ _) ?_
 obtain ⟨f, d, v, y⟩ := h
 refine E0 (J := fun n l w => ∃ (s : (List c7) × Int) (H : Hp) (N7 : Sl) (Fs5l2 : Frag) , n = d s ∧ l = (match s with | (o6, m4) => [(vs N7), (vi m4)]) ∧ (match s with | (o6, m4) => RowL 126 1 j8 N7 o6 Fs5l2) ∧ (match s with | (o6, m4) => Inv w0 ps0 H0 H [Fs5l2] w) ∧ f s H) ⟨_, ([], 0), H, (Sl.mk none 0 0), [], rfl, rfl, (RowL.nil D4 G1), I.nil, v⟩ ?_
 rintro am an w next2 ⟨⟨o6, m4⟩, H, N7, Fs5l2, rfl, g, a0m, I, z⟩ hn2
 dsimp only at g I a0m
 simp only [List.map_cons, List.map_nil, List.cons.injEq, and_true] at g
 obtain ⟨e5, e10⟩ := g
 simp only [e5, e10]
 obtain ⟨n2, hm2, h⟩ : ∃ n2 : ((List c7) × Int) → Hp → Prop, (∀ s' H', n2 s' H' → f s' H' ∧ d s' < d (o6, m4)) ∧ q7 x0 (x0.n : Int) o6 m4 H n2 K := ⟨_, fun _ _ h => h, y (o6, m4) H (fun s' H' => f s' H' ∧ d s' < d (o6, m4)) z (fun _ _ a b => ⟨a, b⟩)⟩
 unfold b2s
 unfold q7 at h
 refine c5 (B7 _ _ _ _ _ _) ?_
 refine d7 h (fun _ h => ?_) (fun _ h => ?_)
 ·obtain ⟨aa, ab, k, i, h⟩ := h
  obtain ⟨ao, ap, ac, i⟩ := i
  refine c5 (a6Y ac _ _ _ _ aa ab) ?_
  refine d3 (ldA (vs := (l0 k)) Tryd.isAgg39 Tryd.sizeOf39 rfl (I.atH i)) ?_
  refine o9 I Tryd.zeroValue39 (cs := [(vi 0), (Value.string ⟨#[]⟩), (Value.slice none 0 0), (Value.slice none 0 0), (Value.slice none 0 0), (Value.slice none 0 0)]) rfl fun aq ar ad au => ?_
  refine s8 ad Tryd.sizeOf39 (vs := (l0 k)) fun av m aw => ?_
  refine d3 (lW Tryd.isAgg39 Tryd.sizeOf39 rfl m) ?_
  refine f5 Tryd.call59 h m ?_
  rintro _ ae _ ax af _ _ ⟨o, rfl, rfl, h⟩
  refine V2 (e := 126) (c := j8) (xs := [o]) af (a5h _) rfl rfl D4 G1 (nb rfl) fun ay az ba ag p bb => ?_
  obtain ⟨ah, h⟩ := h
  refine a4I (s := N7) (xs := o6) (p.bring 2) a0m (ag.srcO ((p.bring 2).bring 1)) ah fun ai aj bc ak al bd => ?_
  refine c5 (v2 _ _ _ _ _ _) ?_
  exact hn2 _ _ _ (hm2 _ _ h).2 ⟨((o6 ++ [o]), (IntKind.wrap .i64 (m4 + 1))), ae, ai, aj, rfl, rfl, ak, ((al.bring 1).drop.bring 1).drop, (hm2 _ _ h).1⟩
 ·exact hx1 _ _ (hj1 o6 N7 Fs5l2 H _ a0m I h)
def a0H (x0 : Int) (H : Hp) (K : Bool → Hp → Prop) : Prop :=
 W2 x0 H (fun a b =>
 K ((decide (a = 3)) || (decide (a = 4))) b)
theorem a5Q (x0 : Int) {H : Hp} {K : Bool → Hp → Prop} (h : a0H x0 H K) : a0C x0 H K := by
 refine Ct.of fun w0 w ps0 H0 R E I hR => b6w ?_
 unfold a0H at h
 unfold F69
 refine f5 Tryd.call70 h I ?_
 rintro _ c _ e d _ _ ⟨b, rfl, rfl, h⟩
 refine c5 (f9 _ _ _ _ _ _) ?_
 simp only [Q2]
 refine c5 (Pu.g fun hb => by have a := hb; simp only [m6 a]; with_reducible exact (f9 _ _ _ _ _ _)) ?_
 refine c5 (a0V _ _) ?_
 exact hR _ c _ _ d ⟨((decide (b = 3)) || (decide (b = 4))), rfl, rfl, h⟩
def a0t (H : Hp) (K : Bool → Hp → Prop) : Prop :=
 K true H
def U1 (b : ByteArray) (a : Nat) (H : Hp) (n2 : Nat → Hp → Prop) (K : Bool → Hp → Prop) : Prop :=
 (a < b.size →
 a0C ((Utf8.decode b a).1 : Int) H (fun c d =>
 TG ((!(!c) && (decide (((a : Nat) : Int) = 0))) = true) (W2 ((Utf8.decode b a).1 : Int) d) 0 d (fun (e : Int) (f : Hp) =>
 (((!c) || ((decide (((a : Nat) : Int) = 0)) && (!decide (e = 3)))) = true →
 K false f) ∧
 (((!c) || ((decide (((a : Nat) : Int) = 0)) && (!decide (e = 3)))) = false →
 n2 (a + (Utf8.decode b a).2) f)))) ∧
 (¬ (a < b.size) →
 a0t H K)
def a1w (x0 : ByteArray) (H : Hp) (K : Bool → Hp → Prop) : Prop :=
 TG ((decide (x0 = ⟨#[]⟩)) = false) (a0A x0 H) false H (fun (a : Bool) (c : Hp) =>
 TG (((decide (x0 = ⟨#[]⟩)) || (!a)) = false) (a1q x0 c) false c (fun (b : Bool) (d : Hp) =>
 TG ((((decide (x0 = ⟨#[]⟩)) || (!a)) || b) = false) (a1r x0 d) false d (fun (e : Bool) (f : Hp) =>
 (((((decide (x0 = ⟨#[]⟩)) || (!a)) || b) || e) = true →
 K false f) ∧
 (((((decide (x0 = ⟨#[]⟩)) || (!a)) || b) || e) = false →
 TL (0 : Nat) f fun (s : Nat) H n2 => U1 x0 s H n2 K))))
theorem a6N (x0 : ByteArray) {H : Hp} {K : Bool → Hp → Prop} (h : a1w x0 H K) : Y8 x0 H K := by
 refine Ct.of fun w0 w ps0 H0 R E I hR => b6s ?_
 unfold a1w at h
 unfold F64
 refine c5 (T0 _ _ _ _ _) ?_
 simp only [Q2]
 refine a5V [] (fun d : Bool => (Value.bool d)) h I (fun r h => ?_) fun d s ai f t u h => ?_
 ·have a := r
  simp only [m6 a]
  refine f5 Tryd.call66 h I ?_
  rintro _ s _ ai f u t ⟨d, rfl, rfl, h⟩
  exact ⟨d, s, rfl, f, t, u, h⟩
 refine c5 (Pu.g fun hb => by have a := hb; simp only [m6 a]; with_reducible exact (V1 _)) ?_
 refine c5 (a0V _ _) ?_
 simp only [Q2]
 refine a5V [] (fun i : Bool => (Value.bool i)) h f (fun v h => ?_) fun i y aj j z aa h => ?_
 ·have a := v
  simp only [m6 a]
  refine f5 Tryd.call67 h f ?_
  rintro _ y _ aj j aa z ⟨i, rfl, rfl, h⟩
  exact ⟨i, y, rfl, j, z, aa, h⟩
 refine c5 (a0V _ _) ?_
 simp only [Q2]
 refine a5V [] (fun k : Bool => (Value.bool k)) h j (fun ab h => ?_) fun k o ak l ac ad h => ?_
 ·have a := ab
  simp only [m6 a]
  refine f5 Tryd.call68 h j ?_
  rintro _ o _ ak l ad ac ⟨k, rfl, rfl, h⟩
  exact ⟨k, o, rfl, l, ac, ad, h⟩
 refine c5 (a0V _ _) ?_
 refine r7 h (fun _ h => ?_) (fun _ h => ?_)
 ·exact hR _ o _ _ l ⟨false, rfl, rfl, h⟩
 ·have hj1 : ∀ (H : Hp) (w : World) (_ : Inv w0 ps0 H0 H [] w) (_ : a0t H K), a9H w R E := by
   intro H w I h
   unfold a9H
   intro _
   unfold a0t at h
   exact hR _ H _ _ I ⟨true, rfl, rfl, h⟩
  refine s7 fun j1 hx1 => ?_
  refine b0F Tryd.underlying9 x0 l fun al aq am ar => ?_
  refine a3L (σ := Nat) (fun c => []) (fun c => [itf al x0 c]) h rfl am ?_
  rintro c H au w next2 n2 an I h hn2
  clear an
  unfold b2v
  unfold U1 at h
  refine b1O I (fun p av ao aw => ?_) (fun p => ?_)
  ·replace h := h.1 p
   refine c5 (g8 _ _ (Value.bool true) rfl) ?_
   refine Z7 (fun e => ?_) (fun e => by cases e)
   refine c5 (g8 _ _ (vi ((c : Nat) : Int)) rfl) ?_
   refine c5 (g8 _ _ (Value.int .i32 ((Utf8.decode x0 c).1 : Int)) rfl) ?_
   refine f5 Tryd.call69 h ao ?_
   rintro _ _ _ ax ae _ _ ⟨ay, rfl, rfl, h⟩
   refine c5 (V1 _) ?_
   simp only [Q2]
   refine c5 (Pu.g fun hb => by have a := hb; simp only [m6 a]; with_reducible exact (f9 _ _ _ _ _ _)) ?_
   simp only [b3P, b5o]
   refine b7l (a3C _ _ _) ?_
   refine a5V [] (fun m : Int => (vi m)) h ae (fun af h => ?_) fun m q ap n ag ah h => ?_
   ·obtain ⟨a, b⟩ := a6o af
    simp only [m6 af]
    refine f5 Tryd.call70 h ae ?_
    rintro _ q _ ap n ah ag ⟨m, rfl, rfl, h⟩
    exact ⟨m, q, rfl, n, ag, ah, h⟩
   refine c5 (Pu.e (a3C _ _ _) (Pu.g fun hb => by obtain ⟨a, b⟩ := a6o hb; simp only [m6 hb]; with_reducible exact (a1x _ _ _ _ _ _))) ?_
   refine c5 (Pu.g fun hb => by have a := hb; simp only [m6 a, b1L a]; with_reducible exact (E6 _ _)) ?_
   refine c5 (a0V _ _) ?_
   refine r7 h (fun _ h => ?_) (fun _ h => ?_)
   ·exact hR _ q _ _ n.drop ⟨false, rfl, rfl, h⟩
   ·exact hn2 (c + (Utf8.decode x0 c).2) _ _ h n
  ·replace h := h.2 p
   refine c5 (g8 _ _ (Value.bool false) rfl) ?_
   refine Z7 (fun e => by cases e) (fun e => ?_)
   exact hx1 _ _ (hj1 H _ I.drop h)
def M6 (x0 : (List ByteArray)) (x1 : ByteArray) (H : Hp) (K : Bool → Hp → Prop) : Prop :=
 O7 x0 x1 H (fun a b =>
 K (decide (0 ≤ a)) b)
theorem a1O (x0 : (List ByteArray)) (x1 : ByteArray) {H : Hp} {K : Bool → Hp → Prop} (h : M6 x0 x1 H K) : E9 x0 x1 H K := by
 intro sx0 Fx0 hx0
 refine Ct.of fun w0 w ps0 H0 R E I hR => b6t ?_
 unfold M6 at h
 unfold F65
 refine f5 Tryd.call71 (h sx0 Fx0 hx0) I ?_
 rintro _ a _ d b _ _ ⟨c, rfl, rfl, h⟩
 refine c5 (a5U _ _ _ _ _ _) ?_
 exact hR _ a _ _ b ⟨(decide (0 ≤ c)), rfl, rfl, h⟩
def K3 (b4i : Sl) (a7A : Int) (d : d8) (K0 : Int) (A8 : (List d4)) (H : Hp) (n2 : (Int × (List d4)) → Hp → Prop) (K : f4 → (List d4) → Hp → Prop) : Prop :=
 (K0 < a7A →
 (0 : Int) ≤ K0 ∧ (K0 : Int) < b4i.n ∧ ∃ a : d8, EltH H b4i K0 4 (d9 a) ∧
 G3 (f4.mk (Sl.mk none 0 0)) A8 a H (fun e b c =>
 n2 ((IntKind.wrap .i64 (K0 + 1)), b) c)) ∧
 (¬ (K0 < a7A) →
 K (f4.mk (Sl.mk none 0 0)) A8 H)
def y8 (P4 : (List d4)) (a : d8) (H : Hp) (K : f4 → (List d4) → Hp → Prop) : Prop :=
 TL ((0, P4) : Int × (List d4)) H fun (s : Int × (List d4)) H n2 => K3 a.u5 (a.u5.n : Int) a s.1 s.2 H n2 K
def U2 (x0 : f4) (a : (List d4)) (x1 : d8) (H : Hp) (K : f4 → (List d4) → Hp → Prop) : Prop :=
 (x1.d5 = 2 →
 (a.length + ([(d4.mk x1.f0 1)] : List d4).length) * 25 ≤ 140737488355328 ∧
 y8 (a ++ [(d4.mk x1.f0 1)]) x1 H K) ∧
 (¬ (x1.d5 = 2) →
 (x1.d5 = 4 →
 (a.length + ([(d4.mk x1.f0 2)] : List d4).length) * 25 ≤ 140737488355328 ∧
 y8 (a ++ [(d4.mk x1.f0 2)]) x1 H K) ∧
 (¬ (x1.d5 = 4) →
 y8 a x1 H K))
theorem a3z (x0 : f4) (d : (List d4)) (x1 : d8) {H : Hp} {K : f4 → (List d4) → Hp → Prop} (h : U2 x0 d x1 H K) : G3 x0 d x1 H K := by
 intro g0 k ab m
 refine Ct.of fun w0 w ps0 H0 R E I hR => b6f ?_
 unfold U2 at h
 unfold F51
 refine B8 I (cs := (d9 x1)) rfl fun o bf g bg => ?_
 have hj1 : ∀ (P4 : (List d4)) (a0u : Sl) (a0v : Frag) (H : Hp) (w : World) (_ : RowL 106 2 o4 a0u P4 a0v) (_ : Inv w0 ps0 H0 H [bx g0 103 [(vs a0u)], bx o 25 (d9 x1), a0v] w) (_ : y8 P4 x1 H K), a9x (Value.pointer (some ⟨g0, 0, none⟩)) (Value.pointer (some ⟨o, 0, none⟩)) w R E := by
  intro P4 a0u a0v H w a7f I h
  unfold a9x
  intro _
  unfold y8 at h
  refine c5 X8 ?_
  refine d3 (l1 Tryd.isAgg23 (I.bring 1) rfl) ?_
  refine c5 (a0d _ _ _) ?_
  obtain ⟨p, f, ac, ad⟩ := h
  refine E0 (J := fun n l w => ∃ (s : Int × (List d4)) (H : Hp) (V8 : Sl) (V9 : Frag) , n = f s ∧ l = (match s with | (K0, A8) => [(vi K0)]) ∧ (match s with | (K0, A8) => RowL 106 2 o4 V8 A8 V9) ∧ (match s with | (K0, A8) => Inv w0 ps0 H0 H [bx g0 103 [(vs V8)], bx o 25 (d9 x1), V9] w) ∧ p s H) ⟨_, (0, P4), H, a0u, a0v, rfl, rfl, a7f, (((I.bring 2).bring 2).bring 2), ac⟩ ?_
  rintro bh bi w next2 ⟨⟨K0, A8⟩, H, V8, V9, rfl, q, a1J, I, ae⟩ hn2
  dsimp only at q I a1J
  simp only [List.map_cons, List.map_nil, List.cons.injEq, and_true] at q
  have e39 := q
  simp only [e39]
  obtain ⟨n2, hm2, h⟩ : ∃ n2 : (Int × (List d4)) → Hp → Prop, (∀ s' H', n2 s' H' → p s' H' ∧ f s' < f (K0, A8)) ∧ K3 x1.u5 (x1.u5.n : Int) x1 K0 A8 H n2 K := ⟨_, fun _ _ h => h, ad (K0, A8) H (fun s' H' => p s' H' ∧ f s' < f (K0, A8)) ae (fun _ _ a b => ⟨a, b⟩)⟩
  unfold b2o
  unfold K3 at h
  refine c5 (B7 _ _ _ _ _ _) ?_
  refine d7 h (fun _ h => ?_) (fun _ h => ?_)
  ·obtain ⟨af, ag, t, r, h⟩ := h
   obtain ⟨bj, bk, ah, r⟩ := r
   refine c5 (Y3 ah _ _ _ _ af ag) ?_
   refine d3 (ldA (vs := (d9 t)) Tryd.isAgg25 Tryd.sizeOf25 rfl (I.atH r)) ?_
   refine o9 I Tryd.zeroValue25 (cs := [(vi 0), (vi 0), (Value.string ⟨#[]⟩), (Value.slice none 0 0)]) rfl fun bl bm ai bn => ?_
   refine s8 ai Tryd.sizeOf25 (vs := (d9 t)) fun bo u bp => ?_
   refine d3 (lW Tryd.isAgg25 Tryd.sizeOf25 rfl u) ?_
   refine f5 Tryd.call51 (h g0 V8 V9 a1J) ((u.bring 3).bring 2) ?_
   rintro _ aj _ bq ak _ _ ⟨br, al, am, an, rfl, rfl, ao, h⟩
   refine c5 (v2 _ _ _ _ _ _) ?_
   exact hn2 _ _ _ (hm2 _ _ h).2 ⟨((IntKind.wrap .i64 (K0 + 1)), al), aj, am, an, rfl, rfl, ao, ((((ak.bring 2).drop.bring 1).bring 2).bring 2), (hm2 _ _ h).1⟩
  ·exact hR _ H _ _ (((I.bring 1).drop.bring 1).bring 1) ⟨(f4.mk (Sl.mk none 0 0)), A8, V8, V9, rfl, rfl, a1J, h⟩
 refine s7 fun j1 hx1 => ?_
 refine c5 N4 ?_
 refine d3 (l1 Tryd.isAgg3 g rfl) ?_
 refine c5 (f9 _ _ _ _ _ _) ?_
 refine d7 h (fun _ h => ?_) (fun _ h => ?_)
 ·refine M9 g fun bs i => ?_
  refine f6 (m3 _) ?_
  refine f6 P8 ?_
  refine f6 a1e ?_
  refine p5 (l1 Tryd.isAgg101 (i.bring 1) rfl) ?_
  refine p5 (l1 Tryd.isAgg9 i rfl) ?_
  refine f6 (a1f _ _) ?_
  refine V2 (e := 106) (c := o4) (xs := [(d4.mk x1.f0 1)]) i (a5g _ _) rfl rfl a0y a0z (nb rfl) fun bt bu bv ap v aq => ?_
  refine ⟨(aq _ (i.bring 1).lt1), ?_⟩
  obtain ⟨ar, h⟩ := h
  refine a6t (s := k) (xs := d) (v.bring 3) m (ap.srcO ((v.bring 3).bring 1)) ar fun y au bw av aw bz => ?_
  refine f6 (m3 _) ?_
  refine f6 P8 ?_
  refine s8 ((aw.bring 1).drop.bring 2) Tryd.sizeOf101 (vs := [(vs y)]) fun ca ax cb => ?_
  exact hx1 _ _ (hj1 (d ++ [(d4.mk x1.f0 1)]) y au H _ av (((ax.bring 1).bring 2).bring 2) h)
 ·refine c5 (f9 _ _ _ _ _ _) ?_
  refine d7 h (fun _ h => ?_) (fun _ h => ?_)
  ·refine M9 g fun cc j => ?_
   refine f6 (m3 _) ?_
   refine f6 P8 ?_
   refine f6 a1e ?_
   refine p5 (l1 Tryd.isAgg101 (j.bring 1) rfl) ?_
   refine p5 (l1 Tryd.isAgg9 j rfl) ?_
   refine f6 (a1f _ _) ?_
   refine V2 (e := 106) (c := o4) (xs := [(d4.mk x1.f0 2)]) j (a5g _ _) rfl rfl a0y a0z (nb rfl) fun cd ce cf ay z az => ?_
   refine ⟨(az _ (j.bring 1).lt1), ?_⟩
   obtain ⟨ba, h⟩ := h
   refine a6t (s := k) (xs := d) (z.bring 3) m (ay.srcO ((z.bring 3).bring 1)) ba fun aa bb cg bc bd ch => ?_
   refine f6 (m3 _) ?_
   refine f6 P8 ?_
   refine s8 ((bd.bring 1).drop.bring 2) Tryd.sizeOf101 (vs := [(vs aa)]) fun ci be cj => ?_
   exact hx1 _ _ (hj1 (d ++ [(d4.mk x1.f0 2)]) aa bb H _ bc (((be.bring 1).bring 2).bring 2) h)
  ·exact hx1 _ _ (hj1 d k ab H _ m (((g.bring 2).bring 1).bring 2) h)
def K4 (b4j : Sl) (b4k : Int) (d : m2) (Z4 : Int) (A8 : (List d4)) (H : Hp) (n2 : (Int × (List d4)) → Hp → Prop) (K : f4 → (List d4) → Hp → Prop) : Prop :=
 (Z4 < b4k →
 (0 : Int) ≤ Z4 ∧ (Z4 : Int) < b4j.n ∧ ∃ a : m2, EltH H b4j Z4 4 (i4 a) ∧
 M2 (f4.mk (Sl.mk none 0 0)) A8 a H (fun e b c =>
 n2 ((IntKind.wrap .i64 (Z4 + 1)), b) c)) ∧
 (¬ (Z4 < b4k) →
 K (f4.mk (Sl.mk none 0 0)) A8 H)
def K5 (a : m2) (P4 : (List d4)) (H : Hp) (K : f4 → (List d4) → Hp → Prop) : Prop :=
 TL ((0, P4) : Int × (List d4)) H fun (s : Int × (List d4)) H n2 => K4 a.o7 (a.o7.n : Int) a s.1 s.2 H n2 K
def K6 (b6P : Sl) (b4l : Int) (b : m2) (Z5 : Int) (S9 : (List d4)) (H : Hp) (n3 : (Int × (List d4)) → Hp → Prop) (K : f4 → (List d4) → Hp → Prop) : Prop :=
 (Z5 < b4l →
 (0 : Int) ≤ Z5 ∧ (Z5 : Int) < b6P.n ∧ ∃ a : d8, EltH H b6P Z5 4 (d9 a) ∧
 G3 (f4.mk (Sl.mk none 0 0)) S9 a H (fun e c d =>
 n3 ((IntKind.wrap .i64 (Z5 + 1)), c) d)) ∧
 (¬ (Z5 < b4l) →
 K5 b S9 H K)
def U3 (x0 : f4) (a : (List d4)) (x1 : m2) (H : Hp) (K : f4 → (List d4) → Hp → Prop) : Prop :=
 TL ((0, a) : Int × (List d4)) H fun (s : Int × (List d4)) H n3 => K6 x1.g5 (x1.g5.n : Int) x1 s.1 s.2 H n3 K
theorem a3A (x0 : f4) (f : (List d4)) (x1 : m2) {H : Hp} {K : f4 → (List d4) → Hp → Prop} (h : U3 x0 f x1 H K) : M2 x0 f x1 H K := by
 intro g0 v y z
 refine Ct.of fun w0 w ps0 H0 R E I hR => b6e ?_
 unfold U3 at h
 unfold F50
 refine B8 I (cs := (i4 x1)) rfl fun e bc p bd => ?_
 have hj1 : ∀ (P4 : (List d4)) (a0u : Sl) (a0v : Frag) (H : Hp) (w : World) (_ : RowL 106 2 o4 a0u P4 a0v) (_ : Inv w0 ps0 H0 H [bx e 89 (i4 x1), bx g0 103 [(vs a0u)], a0v] w) (_ : K5 x1 P4 H K), a9w (Value.pointer (some ⟨g0, 0, none⟩)) (Value.pointer (some ⟨e, 0, none⟩)) w R E := by
  intro P4 a0u a0v H w a7f I h
  unfold a9w
  intro _
  unfold K5 at h
  refine c5 X9 ?_
  refine d3 (l1 Tryd.isAgg36 I rfl) ?_
  refine c5 (a2H _ _ _) ?_
  obtain ⟨g, c, aa, ab⟩ := h
  refine E0 (J := fun n l w => ∃ (s : Int × (List d4)) (H : Hp) (V8 : Sl) (V9 : Frag) , n = c s ∧ l = (match s with | (Z4, A8) => [(vi Z4)]) ∧ (match s with | (Z4, A8) => RowL 106 2 o4 V8 A8 V9) ∧ (match s with | (Z4, A8) => Inv w0 ps0 H0 H [bx e 89 (i4 x1), bx g0 103 [(vs V8)], V9] w) ∧ g s H) ⟨_, (0, P4), H, a0u, a0v, rfl, rfl, a7f, (((I.bring 2).bring 2).bring 2), aa⟩ ?_
  rintro be bf w next2 ⟨⟨Z4, A8⟩, H, V8, V9, rfl, i, a1J, I, ac⟩ hn2
  dsimp only at i I a1J
  simp only [List.map_cons, List.map_nil, List.cons.injEq, and_true] at i
  have e22 := i
  simp only [e22]
  obtain ⟨n2, hm2, h⟩ : ∃ n2 : (Int × (List d4)) → Hp → Prop, (∀ s' H', n2 s' H' → g s' H' ∧ c s' < c (Z4, A8)) ∧ K4 x1.o7 (x1.o7.n : Int) x1 Z4 A8 H n2 K := ⟨_, fun _ _ h => h, ab (Z4, A8) H (fun s' H' => g s' H' ∧ c s' < c (Z4, A8)) ac (fun _ _ a b => ⟨a, b⟩)⟩
  unfold b2m
  unfold K4 at h
  refine c5 (B7 _ _ _ _ _ _) ?_
  refine d7 h (fun _ h => ?_) (fun _ h => ?_)
  ·obtain ⟨ad, ae, q, j, h⟩ := h
   obtain ⟨bg, bh, af, j⟩ := j
   refine c5 (R5 af _ _ _ _ ad ae) ?_
   refine d3 (ldA (vs := (i4 q)) Tryd.isAgg89 Tryd.sizeOf89 rfl (I.atH j)) ?_
   refine o9 I Tryd.zeroValue89 (cs := [(vi 0), (vi 0), (Value.slice none 0 0), (Value.slice none 0 0)]) rfl fun bi bj ag bk => ?_
   refine s8 ag Tryd.sizeOf89 (vs := (i4 q)) fun bl r bm => ?_
   refine d3 (lW Tryd.isAgg89 Tryd.sizeOf89 rfl r) ?_
   refine f5 Tryd.call50 (h g0 V8 V9 a1J) ((r.bring 3).bring 3) ?_
   rintro _ ah _ bn ai _ _ ⟨bo, aj, ak, al, rfl, rfl, am, h⟩
   refine c5 (v2 _ _ _ _ _ _) ?_
   exact hn2 _ _ _ (hm2 _ _ h).2 ⟨((IntKind.wrap .i64 (Z4 + 1)), aj), ah, ak, al, rfl, rfl, am, ((((ai.bring 2).drop.bring 1).bring 1).bring 2), (hm2 _ _ h).1⟩
  ·exact hR _ H _ _ ((I.drop.bring 1).bring 1) ⟨(f4.mk (Sl.mk none 0 0)), A8, V8, V9, rfl, rfl, a1J, h⟩
 refine s7 fun j1 hx1 => ?_
 refine c5 a3q ?_
 refine d3 (l1 Tryd.isAgg23 p rfl) ?_
 refine c5 (a0d _ _ _) ?_
 obtain ⟨k, d, an, ao⟩ := h
 refine E0 (J := fun n l w => ∃ (s : Int × (List d4)) (H : Hp) (a4d : Sl) (a4e : Frag) , n = d s ∧ l = (match s with | (Z5, S9) => [(vi Z5)]) ∧ (match s with | (Z5, S9) => RowL 106 2 o4 a4d S9 a4e) ∧ (match s with | (Z5, S9) => Inv w0 ps0 H0 H [bx e 89 (i4 x1), bx g0 103 [(vs a4d)], a4e] w) ∧ k s H) ⟨_, (0, f), H, v, y, rfl, rfl, z, (((p.bring 2).bring 2).bring 2), an⟩ ?_
 rintro bp bq w next3 ⟨⟨Z5, S9⟩, H, a4d, a4e, rfl, m, a7g, I, ap⟩ hn3
 dsimp only at m I a7g
 simp only [List.map_cons, List.map_nil, List.cons.injEq, and_true] at m
 have e11 := m
 simp only [e11]
 obtain ⟨n3, hm3, h⟩ : ∃ n3 : (Int × (List d4)) → Hp → Prop, (∀ s' H', n3 s' H' → k s' H' ∧ d s' < d (Z5, S9)) ∧ K6 x1.g5 (x1.g5.n : Int) x1 Z5 S9 H n3 K := ⟨_, fun _ _ h => h, ao (Z5, S9) H (fun s' H' => k s' H' ∧ d s' < d (Z5, S9)) ap (fun _ _ a b => ⟨a, b⟩)⟩
 unfold b2n
 unfold K6 at h
 refine c5 (B7 _ _ _ _ _ _) ?_
 refine d7 h (fun _ h => ?_) (fun _ h => ?_)
 ·obtain ⟨aq, ar, t, o, h⟩ := h
  obtain ⟨br, bs, au, o⟩ := o
  refine c5 (Y3 au _ _ _ _ aq ar) ?_
  refine d3 (ldA (vs := (d9 t)) Tryd.isAgg25 Tryd.sizeOf25 rfl (I.atH o)) ?_
  refine o9 I Tryd.zeroValue25 (cs := [(vi 0), (vi 0), (Value.string ⟨#[]⟩), (Value.slice none 0 0)]) rfl fun bt bu av bv => ?_
  refine s8 av Tryd.sizeOf25 (vs := (d9 t)) fun bw u bz => ?_
  refine d3 (lW Tryd.isAgg25 Tryd.sizeOf25 rfl u) ?_
  refine f5 Tryd.call51 (h g0 a4d a4e a7g) ((u.bring 3).bring 3) ?_
  rintro _ aw _ ca ax _ _ ⟨cb, ay, az, ba, rfl, rfl, bb, h⟩
  refine c5 (v2 _ _ _ _ _ _) ?_
  exact hn3 _ _ _ (hm3 _ _ h).2 ⟨((IntKind.wrap .i64 (Z5 + 1)), ay), aw, az, ba, rfl, rfl, bb, ((((ax.bring 2).drop.bring 1).bring 1).bring 2), (hm3 _ _ h).1⟩
 ·exact hx1 _ _ (hj1 S9 a4d a4e H _ a7g (((I.bring 2).bring 2).bring 2) h)
def q8 (N6 : (List c7)) (H : Hp) (K : Sl → Hp → Prop) : Prop :=
 ∀ (z7 : Sl) (a : Hp), Hle H a → SlH a 1 j8 z7 N6 → z7.n ≤ z7.c →
 K z7 a
def q9 (T8 : Sl) (V4 : Int) (o6 : (List c7)) (m4 : Int) (H : Hp) (n2 : ((List c7) × Int) → Hp → Prop) (K : Sl → Hp → Prop) : Prop :=
 (m4 < V4 →
 (0 : Int) ≤ m4 ∧ (m4 : Int) < T8.n ∧ ∃ a : d8, EltH H T8 m4 4 (d9 a) ∧
 a2d a H (fun b c =>
 (o6.length + ([b] : List c7).length) * 17 ≤ 140737488355328 ∧
 n2 ((o6 ++ [b]), (IntKind.wrap .i64 (m4 + 1))) c)) ∧
 (¬ (m4 < V4) →
 q8 o6 H K)
def y9 (x0 : Sl) (H : Hp) (K : Sl → Hp → Prop) : Prop :=
 TL (([], 0) : (List c7) × Int) H fun (s : (List c7) × Int) H n2 => q9 x0 (x0.n : Int) s.1 s.2 H n2 K
theorem P5 (x0 : Sl) {H : Hp} {K : Sl → Hp → Prop} (h : y9 x0 H K) : m9 x0 H K := by
 refine Ct.of fun w0 w ps0 H0 R E I hR => b6H ?_
 unfold y9 at h
 unfold F97
 have hj1 : ∀ (N6 : (List c7)) (z7 : Sl) (Fs5j1 : Frag) (H : Hp) (w : World) (_ : RowL 126 1 j8 z7 N6 Fs5j1) (_ : Inv w0 ps0 H0 H [Fs5j1] w) (_ : q8 N6 H K), a9R (vs z7) w R E := by
  intro N6 z7 Fs5j1 H w a5n I h
  unfold a9R
  intro _
  unfold q8 at h
  obtain ⟨j, q, r, t, u⟩ := Inv.freezeC I a5n (by decide)
  replace h := h z7 j r t u
  exact hR _ j _ _ q ⟨z7, rfl, rfl, h⟩
 refine s7 fun j1 hx1 => ?_
 refine c5 (a0d _ _ _) ?_
 obtain ⟨f, d, v, y⟩ := h
 refine E0 (J := fun n l w => ∃ (s : (List c7) × Int) (H : Hp) (N7 : Sl) (Fs5l2 : Frag) , n = d s ∧ l = (match s with | (o6, m4) => [(vs N7), (vi m4)]) ∧ (match s with | (o6, m4) => RowL 126 1 j8 N7 o6 Fs5l2) ∧ (match s with | (o6, m4) => Inv w0 ps0 H0 H [Fs5l2] w) ∧ f s H) ⟨_, ([], 0), H, (Sl.mk none 0 0), [], rfl, rfl, (RowL.nil D4 G1), I.nil, v⟩ ?_
 rintro am an w next2 ⟨⟨o6, m4⟩, H, N7, Fs5l2, rfl, g, a0m, I, z⟩ hn2
 dsimp only at g I a0m
 simp only [List.map_cons, List.map_nil, List.cons.injEq, and_true] at g
 obtain ⟨e5, e10⟩ := g
 simp only [e5, e10]
 obtain ⟨n2, hm2, h⟩ : ∃ n2 : ((List c7) × Int) → Hp → Prop, (∀ s' H', n2 s' H' → f s' H' ∧ d s' < d (o6, m4)) ∧ q9 x0 (x0.n : Int) o6 m4 H n2 K := ⟨_, fun _ _ h => h, y (o6, m4) H (fun s' H' => f s' H' ∧ d s' < d (o6, m4)) z (fun _ _ a b => ⟨a, b⟩)⟩
 unfold b2z
 unfold q9 at h
 refine c5 (B7 _ _ _ _ _ _) ?_
 refine d7 h (fun _ h => ?_) (fun _ h => ?_)
 ·obtain ⟨aa, ab, k, i, h⟩ := h
  obtain ⟨ao, ap, ac, i⟩ := i
  refine c5 (Y3 ac _ _ _ _ aa ab) ?_
  refine d3 (ldA (vs := (d9 k)) Tryd.isAgg25 Tryd.sizeOf25 rfl (I.atH i)) ?_
  refine o9 I Tryd.zeroValue25 (cs := [(vi 0), (vi 0), (Value.string ⟨#[]⟩), (Value.slice none 0 0)]) rfl fun aq ar ad au => ?_
  refine s8 ad Tryd.sizeOf25 (vs := (d9 k)) fun av m aw => ?_
  refine d3 (lW Tryd.isAgg25 Tryd.sizeOf25 rfl m) ?_
  refine f5 Tryd.call98 h m ?_
  rintro _ ae _ ax af _ _ ⟨o, rfl, rfl, h⟩
  refine V2 (e := 126) (c := j8) (xs := [o]) af (a5h _) rfl rfl D4 G1 (nb rfl) fun ay az ba ag p bb => ?_
  obtain ⟨ah, h⟩ := h
  refine a4I (s := N7) (xs := o6) (p.bring 2) a0m (ag.srcO ((p.bring 2).bring 1)) ah fun ai aj bc ak al bd => ?_
  refine c5 (v2 _ _ _ _ _ _) ?_
  exact hn2 _ _ _ (hm2 _ _ h).2 ⟨((o6 ++ [o]), (IntKind.wrap .i64 (m4 + 1))), ae, ai, aj, rfl, rfl, ak, ((al.bring 1).drop.bring 1).drop, (hm2 _ _ h).1⟩
 ·exact hx1 _ _ (hj1 o6 N7 Fs5l2 H _ a0m I h)
def u4 (b8g : Int) (a6x : Bool) (a : B2) (H : Hp) (K : Bool → Hp → Prop) : Prop :=
 (a6x = true →
 K (decide (b8g = 2)) H) ∧
 (a6x = false →
 K false H)
def C1 (a7Z : Int) (a1i : Int) (a6y : Bool) (a : B2) (H : Hp) (K : Bool → Hp → Prop) : Prop :=
 (a6y = true →
 K (decide (a7Z = 1)) H) ∧
 (a6y = false →
 (a1i = 6 →
 u4 a7Z (decide (a1i = 6)) a H K) ∧
 (¬ (a1i = 6) →
 (a1i = 7 →
 u4 a7Z (decide (a1i = 7)) a H K) ∧
 (¬ (a1i = 7) →
 (a1i = 8 →
 u4 a7Z (decide (a1i = 8)) a H K) ∧
 (¬ (a1i = 8) →
 (a1i = 9 →
 u4 a7Z (decide (a1i = 9)) a H K) ∧
 (¬ (a1i = 9) →
 u4 a7Z (decide (a1i = 10)) a H K)))))
def C2 (a3e : Int) (a1j : Int) (a6z : Bool) (a : B2) (H : Hp) (K : Bool → Hp → Prop) : Prop :=
 (a6z = true →
 K (decide (a3e = 0)) H) ∧
 (a6z = false →
 (a1j = 4 →
 C1 a3e a1j (decide (a1j = 4)) a H K) ∧
 (¬ (a1j = 4) →
 C1 a3e a1j (decide (a1j = 5)) a H K))
def W9 (x0 : B2) (H : Hp) (K : Bool → Hp → Prop) : Prop :=
 Q5 (c7.u7 x0) H (fun c b a =>
 ((((!decide (x0.j9.d5 = 1)) && (!decide (x0.j9.v8 = 0))) || ((!b) && (!decide (x0.j9.f0 = ⟨#[]⟩)))) = true →
 K false a) ∧
 ((((!decide (x0.j9.d5 = 1)) && (!decide (x0.j9.v8 = 0))) || ((!b) && (!decide (x0.j9.f0 = ⟨#[]⟩)))) = false →
 (x0.j9.d5 = 1 →
 K ((decide (0 ≤ x0.j9.v8)) && (decide ((x0.j9.u5.n : Int) = 0))) a) ∧
 (¬ (x0.j9.d5 = 1) →
 (x0.j9.d5 = 2 →
 C2 (x0.j9.u5.n : Int) x0.j9.d5 (decide (x0.j9.d5 = 2)) x0 a K) ∧
 (¬ (x0.j9.d5 = 2) →
 C2 (x0.j9.u5.n : Int) x0.j9.d5 (decide (x0.j9.d5 = 3)) x0 a K))))
theorem a4k (x0 : B2) {H : Hp} {K : Bool → Hp → Prop} (h : W9 x0 H K) : W5 x0 H K := by
 refine Ct.of fun w0 w ps0 H0 R E I hR => b6J ?_
 unfold W9 at h
 unfold F99
 refine B8 I (cs := (d9 x0.j9)) rfl fun f l i m => ?_
 refine c5 M7 ?_
 refine c5 X8 ?_
 refine d3 (l1 Tryd.isAgg23 i rfl) ?_
 refine c5 (a0d _ _ _) ?_
 refine d3 (lW Tryd.isAgg146 Tryd.sizeOf146 rfl i) ?_
 refine c5 (a4J x0) ?_
 refine f5 Tryd.call63 h i ?_
 rintro _ d _ o c _ _ ⟨j, k, rfl, rfl, h⟩
 refine c5 (g8 _ _ (Value.string j) rfl) ?_
 refine c5 (g8 _ _ (Value.bool k) rfl) ?_
 refine c5 M7 ?_
 refine c5 N4 ?_
 refine d3 (l1 Tryd.isAgg3 c rfl) ?_
 refine c5 (a1x _ _ _ _ _ _) ?_
 refine c5 (Pu.g fun hb => by have a := hb; with_reducible exact M7) ?_
 refine c5 (Pu.g fun hb => by have a := hb; simp only [m6 a]; with_reducible exact a3p) ?_
 refine d3 (Ld.g fun hb => by have a := hb; simp only [m6 a]; exact (l1 Tryd.isAgg2 c rfl)) ?_
 refine c5 (Pu.g fun hb => by have a := hb; simp only [m6 a]; with_reducible exact (a1x _ _ _ _ _ _)) ?_
 refine c5 (E6 _ _) ?_
 simp only [Q2]
 refine c5 (Pu.g fun hb => by have a := hb; simp only [m6 a]; with_reducible exact (V1 _)) ?_
 simp only [b3P]
 refine c5 (Pu.e (a3C _ _ _) (Pu.g fun hb => by obtain ⟨a, b⟩ := a6o hb; with_reducible exact M7)) ?_
 refine c5 (Pu.e (a3C _ _ _) (Pu.g fun hb => by obtain ⟨a, b⟩ := a6o hb; simp only [m6 hb]; with_reducible exact a1e)) ?_
 refine d3 (Ld.e (a3C _ _ _) (Ld.g fun hb => by obtain ⟨a, b⟩ := a6o hb; simp only [m6 hb]; exact (l1 Tryd.isAgg9 c rfl))) ?_
 refine c5 (Pu.e (a3C _ _ _) (Pu.g fun hb => by obtain ⟨a, b⟩ := a6o hb; simp only [m6 hb]; with_reducible exact (b5n _ _ _ _ _))) ?_
 refine c5 (Pu.g fun hb => by have a := hb; simp only [m6 a, b1L a]; with_reducible exact (E6 _ _)) ?_
 refine c5 (a0V _ _) ?_
 refine r7 h (fun _ h => ?_) (fun _ h => ?_)
 ·exact hR _ d _ _ c.drop ⟨false, rfl, rfl, h⟩
 ·refine c5 M7 ?_
  refine c5 N4 ?_
  refine d3 (l1 Tryd.isAgg3 c rfl) ?_
  refine c5 (f9 _ _ _ _ _ _) ?_
  refine d7 h (fun _ h => ?_) (fun _ h => ?_)
  ·refine c5 M7 ?_
   refine c5 a3p ?_
   refine d3 (l1 Tryd.isAgg2 c rfl) ?_
   refine c5 (a5U _ _ _ _ _ _) ?_
   simp only [Q2]
   refine c5 (Pu.g fun hb => by have a := hb; simp only [m6 a]; with_reducible exact (f9 _ _ _ _ _ _)) ?_
   refine c5 (E6 _ _) ?_
   exact hR _ d _ _ c.drop ⟨((decide (0 ≤ x0.j9.v8)) && (decide ((x0.j9.u5.n : Int) = 0))), rfl, rfl, h⟩
  ·have hj1 : ∀ (a6z : Bool) (H : Hp) (w : World) (_ : Inv w0 ps0 H0 H [bx f 146 (d9 x0.j9)] w) (_ : C2 (x0.j9.u5.n : Int) x0.j9.d5 a6z x0 H K), a9U (vi (x0.j9.u5.n : Int)) (vi x0.j9.d5) (Value.bool a6z) w R E := by
    intro a6z H w I h
    unfold a9U
    intro _
    unfold C2 at h
    refine r7 h (fun _ h => ?_) (fun _ h => ?_)
    ·refine c5 (f9 _ _ _ _ _ _) ?_
     exact hR _ H _ _ I.drop ⟨(decide ((x0.j9.u5.n : Int) = 0)), rfl, rfl, h⟩
    ·have hj2 : ∀ (a6y : Bool) (H : Hp) (w : World) (_ : Inv w0 ps0 H0 H [bx f 146 (d9 x0.j9)] w) (_ : C1 (x0.j9.u5.n : Int) x0.j9.d5 a6y x0 H K), a9T (vi (x0.j9.u5.n : Int)) (vi x0.j9.d5) (Value.bool a6y) w R E := by
      intro a6y H w I h
      unfold a9T
      intro _
      unfold C1 at h
      refine r7 h (fun _ h => ?_) (fun _ h => ?_)
      ·refine c5 (f9 _ _ _ _ _ _) ?_
       exact hR _ H _ _ I.drop ⟨(decide ((x0.j9.u5.n : Int) = 1)), rfl, rfl, h⟩
      ·have hj3 : ∀ (a6x : Bool) (H : Hp) (w : World) (_ : Inv w0 ps0 H0 H [bx f 146 (d9 x0.j9)] w) (_ : u4 (x0.j9.u5.n : Int) a6x x0 H K), a9S (vi (x0.j9.u5.n : Int)) (Value.bool a6x) w R E := by
        intro a6x H w I h
        unfold a9S
        intro _
        unfold u4 at h
        refine r7 h (fun _ h => ?_) (fun _ h => ?_)
        ·refine c5 (f9 _ _ _ _ _ _) ?_
         exact hR _ H _ _ I.drop ⟨(decide ((x0.j9.u5.n : Int) = 2)), rfl, rfl, h⟩
        ·exact hR _ H _ _ I.drop ⟨false, rfl, rfl, h⟩
       refine s7 fun j3 hx3 => ?_
       refine c5 (f9 _ _ _ _ _ _) ?_
       refine d7 h (fun _ h => ?_) (fun _ h => ?_)
       ·exact hx3 _ _ (hj3 (decide (x0.j9.d5 = 6)) H _ I h)
       ·refine c5 (f9 _ _ _ _ _ _) ?_
        refine d7 h (fun _ h => ?_) (fun _ h => ?_)
        ·exact hx3 _ _ (hj3 (decide (x0.j9.d5 = 7)) H _ I h)
        ·refine c5 (f9 _ _ _ _ _ _) ?_
         refine d7 h (fun _ h => ?_) (fun _ h => ?_)
         ·exact hx3 _ _ (hj3 (decide (x0.j9.d5 = 8)) H _ I h)
         ·refine c5 (f9 _ _ _ _ _ _) ?_
          refine d7 h (fun _ h => ?_) (fun _ h => ?_)
          ·exact hx3 _ _ (hj3 (decide (x0.j9.d5 = 9)) H _ I h)
          ·refine c5 (f9 _ _ _ _ _ _) ?_
           exact hx3 _ _ (hj3 (decide (x0.j9.d5 = 10)) H _ I h)
     refine s7 fun j2 hx2 => ?_
     refine c5 (f9 _ _ _ _ _ _) ?_
     refine d7 h (fun _ h => ?_) (fun _ h => ?_)
     ·exact hx2 _ _ (hj2 (decide (x0.j9.d5 = 4)) H _ I h)
     ·refine c5 (f9 _ _ _ _ _ _) ?_
      exact hx2 _ _ (hj2 (decide (x0.j9.d5 = 5)) H _ I h)
   refine s7 fun j1 hx1 => ?_
   refine c5 (f9 _ _ _ _ _ _) ?_
   refine d7 h (fun _ h => ?_) (fun _ h => ?_)
   ·exact hx1 _ _ (hj1 (decide (x0.j9.d5 = 2)) d _ c h)
   ·refine c5 (f9 _ _ _ _ _ _) ?_
    exact hx1 _ _ (hj1 (decide (x0.j9.d5 = 3)) d _ c h)
def C3 (a6A : Bool) (a : i5) (b : E5) (H : Hp) (K : Bool → Hp → Prop) : Prop :=
 (a6A = true →
 K (decide (a.fexprs = 0 ∧ a.fparts = 2)) H) ∧
 (a6A = false →
 K false H)
def C4 (a1j : Int) (a6B : Bool) (a : i5) (b : E5) (H : Hp) (K : Bool → Hp → Prop) : Prop :=
 (a6B = true →
 K (decide (a.fexprs = 0 ∧ a.fparts = 0)) H) ∧
 (a6B = false →
 (a1j = 4 →
 K (decide (a.fexprs = 0 ∧ a.fparts = 1)) H) ∧
 (¬ (a1j = 4) →
 (a1j = 5 →
 C3 (decide (a1j = 5)) a b H K) ∧
 (¬ (a1j = 5) →
 C3 (decide (a1j = 6)) a b H K)))
def X0 (x0 : E5) (H : Hp) (K : Bool → Hp → Prop) : Prop :=
 (x0.j6.d5 = 3 →
 K (((decide (1 ≤ x0.j6.fOp)) && (decide (x0.j6.fOp ≤ 6))) && (decide ((x0.j6.g5.n : Int) = 2 ∧ (x0.j6.o7.n : Int) = 0))) H) ∧
 (¬ (x0.j6.d5 = 3) →
 (¬ (x0.j6.fOp = 0) →
 K false H) ∧
 (x0.j6.fOp = 0 →
 (x0.j6.d5 = 1 →
 C4 x0.j6.d5 (decide (x0.j6.d5 = 1)) (i5.mk (x0.j6.g5.n : Int) (x0.j6.o7.n : Int)) x0 H K) ∧
 (¬ (x0.j6.d5 = 1) →
 C4 x0.j6.d5 (decide (x0.j6.d5 = 2)) (i5.mk (x0.j6.g5.n : Int) (x0.j6.o7.n : Int)) x0 H K)))
theorem a4l (x0 : E5) {H : Hp} {K : Bool → Hp → Prop} (h : X0 x0 H K) : W6 x0 H K := by
 refine Ct.of fun w0 w ps0 H0 R E I hR => b4K ?_
 unfold X0 at h
 unfold b6L
 refine B8 I (cs := (i4 x0.j6)) rfl fun e i d j => ?_
 refine c5 P9 ?_
 refine c5 a3q ?_
 refine d3 (l1 Tryd.isAgg23 d rfl) ?_
 refine c5 (a0d _ _ _) ?_
 refine c5 P9 ?_
 refine c5 X9 ?_
 refine d3 (l1 Tryd.isAgg36 d rfl) ?_
 refine c5 (a2H _ _ _) ?_
 refine c5 (a1g _ _) ?_
 refine o9 d Tryd.zeroValue184 (cs := [(vi 0), (vi 0)]) rfl fun c k f l => ?_
 refine s8 f Tryd.sizeOf184 (vs := [(vi (x0.j6.g5.n : Int)), (vi (x0.j6.o7.n : Int))]) fun m b p => ?_
 refine c5 P9 ?_
 refine c5 a5e ?_
 refine d3 (l1 Tryd.isAgg3 (b.bring 1) rfl) ?_
 refine c5 (f9 _ _ _ _ _ _) ?_
 refine d7 h (fun _ h => ?_) (fun _ h => ?_)
 ·refine c5 P9 ?_
  refine c5 a1W ?_
  refine d3 (l1 Tryd.isAgg3 (b.bring 1) rfl) ?_
  refine c5 (a5U _ _ _ _ _ _) ?_
  refine c5 (Pu.g fun hb => by have a := hb; with_reducible exact P9) ?_
  refine c5 (Pu.g fun hb => by have a := hb; simp only [m6 a]; with_reducible exact a1W) ?_
  refine d3 (Ld.g fun hb => by have a := hb; simp only [m6 a]; exact (l1 Tryd.isAgg3 (b.bring 1) rfl)) ?_
  refine c5 (Pu.g fun hb => by have a := hb; simp only [m6 a]; with_reducible exact (a7m _ _ _ _ _ _)) ?_
  refine c5 (E6 _ _) ?_
  refine d3 (Ld.g fun hb => by have a := hb; exact (ldA Tryd.isAgg184 Tryd.sizeOf184 rfl (b.at1 (o := 0) (vs := [(vi (x0.j6.g5.n : Int)), (vi (x0.j6.o7.n : Int))]) (nb rfl) rfl))) ?_
  refine c5 (Pu.g fun hb => by have a := hb; with_reducible exact (a1g _ _)) ?_
  refine c5 (Pu.g fun hb => by have a := hb; simp only [m6 a]; with_reducible exact (a4o _ _ _ _ _ _)) ?_
  refine c5 (E6 _ _) ?_
  exact hR _ H _ _ b.drop.drop ⟨(((decide (1 ≤ x0.j6.fOp)) && (decide (x0.j6.fOp ≤ 6))) && (decide ((x0.j6.g5.n : Int) = 2 ∧ (x0.j6.o7.n : Int) = 0))), rfl, rfl, h⟩
 ·refine c5 P9 ?_
  refine c5 a1W ?_
  refine d3 (l1 Tryd.isAgg3 (b.bring 1) rfl) ?_
  refine c5 (a1x _ _ _ _ _ _) ?_
  refine a6W h (fun _ h => ?_) (fun _ h => ?_)
  ·exact hR _ H _ _ b.drop.drop ⟨false, rfl, rfl, h⟩
  ·refine c5 P9 ?_
   refine c5 a5e ?_
   refine d3 (l1 Tryd.isAgg3 (b.bring 1) rfl) ?_
   have hj1 : ∀ (a6B : Bool) (H : Hp) (w : World) (_ : Inv w0 ps0 H0 H [bx c 184 [(vi (i5.mk (x0.j6.g5.n : Int) (x0.j6.o7.n : Int)).fexprs), (vi (i5.mk (x0.j6.g5.n : Int) (x0.j6.o7.n : Int)).fparts)], bx e 181 (i4 x0.j6)] w) (_ : C4 x0.j6.d5 a6B (i5.mk (x0.j6.g5.n : Int) (x0.j6.o7.n : Int)) x0 H K), a7U (Value.pointer (some ⟨c, 0, none⟩)) (vi x0.j6.d5) (Value.bool a6B) w R E := by
    intro a6B H w I h
    unfold a7U
    intro _
    unfold C4 at h
    refine r7 h (fun _ h => ?_) (fun _ h => ?_)
    ·refine d3 (ldA Tryd.isAgg184 Tryd.sizeOf184 rfl (I.at1 (o := 0) (vs := [(vi (i5.mk (x0.j6.g5.n : Int) (x0.j6.o7.n : Int)).fexprs), (vi (i5.mk (x0.j6.g5.n : Int) (x0.j6.o7.n : Int)).fparts)]) (nb rfl) rfl)) ?_
     refine c5 (b1e ) ?_
     refine c5 (a4o _ _ _ _ _ _) ?_
     exact hR _ H _ _ I.drop.drop ⟨(decide ((i5.mk (x0.j6.g5.n : Int) (x0.j6.o7.n : Int)).fexprs = 0 ∧ (i5.mk (x0.j6.g5.n : Int) (x0.j6.o7.n : Int)).fparts = 0)), rfl, rfl, h⟩
    ·refine c5 (f9 _ _ _ _ _ _) ?_
     refine d7 h (fun _ h => ?_) (fun _ h => ?_)
     ·refine d3 (ldA Tryd.isAgg184 Tryd.sizeOf184 rfl (I.at1 (o := 0) (vs := [(vi (i5.mk (x0.j6.g5.n : Int) (x0.j6.o7.n : Int)).fexprs), (vi (i5.mk (x0.j6.g5.n : Int) (x0.j6.o7.n : Int)).fparts)]) (nb rfl) rfl)) ?_
      refine c5 (a1g _ _) ?_
      refine c5 (a4o _ _ _ _ _ _) ?_
      exact hR _ H _ _ I.drop.drop ⟨(decide ((i5.mk (x0.j6.g5.n : Int) (x0.j6.o7.n : Int)).fexprs = 0 ∧ (i5.mk (x0.j6.g5.n : Int) (x0.j6.o7.n : Int)).fparts = 1)), rfl, rfl, h⟩
     ·have hj2 : ∀ (a6A : Bool) (H : Hp) (w : World) (_ : Inv w0 ps0 H0 H [bx c 184 [(vi (i5.mk (x0.j6.g5.n : Int) (x0.j6.o7.n : Int)).fexprs), (vi (i5.mk (x0.j6.g5.n : Int) (x0.j6.o7.n : Int)).fparts)], bx e 181 (i4 x0.j6)] w) (_ : C3 a6A (i5.mk (x0.j6.g5.n : Int) (x0.j6.o7.n : Int)) x0 H K), a7T (Value.pointer (some ⟨c, 0, none⟩)) (Value.bool a6A) w R E := by
       intro a6A H w I h
       unfold a7T
       intro _
       unfold C3 at h
       refine r7 h (fun _ h => ?_) (fun _ h => ?_)
       ·refine d3 (ldA Tryd.isAgg184 Tryd.sizeOf184 rfl (I.at1 (o := 0) (vs := [(vi (i5.mk (x0.j6.g5.n : Int) (x0.j6.o7.n : Int)).fexprs), (vi (i5.mk (x0.j6.g5.n : Int) (x0.j6.o7.n : Int)).fparts)]) (nb rfl) rfl)) ?_
        refine c5 (a1g _ _) ?_
        refine c5 (a4o _ _ _ _ _ _) ?_
        exact hR _ H _ _ I.drop.drop ⟨(decide ((i5.mk (x0.j6.g5.n : Int) (x0.j6.o7.n : Int)).fexprs = 0 ∧ (i5.mk (x0.j6.g5.n : Int) (x0.j6.o7.n : Int)).fparts = 2)), rfl, rfl, h⟩
       ·exact hR _ H _ _ I.drop.drop ⟨false, rfl, rfl, h⟩
      refine s7 fun j2 hx2 => ?_
      refine c5 (f9 _ _ _ _ _ _) ?_
      refine d7 h (fun _ h => ?_) (fun _ h => ?_)
      ·exact hx2 _ _ (hj2 (decide (x0.j6.d5 = 5)) H _ ((I.bring 1).bring 1) h)
      ·refine c5 (f9 _ _ _ _ _ _) ?_
       exact hx2 _ _ (hj2 (decide (x0.j6.d5 = 6)) H _ ((I.bring 1).bring 1) h)
   refine s7 fun j1 hx1 => ?_
   refine c5 (f9 _ _ _ _ _ _) ?_
   refine d7 h (fun _ h => ?_) (fun _ h => ?_)
   ·exact hx1 _ _ (hj1 (decide (x0.j6.d5 = 1)) H _ ((b.bring 1).bring 1) h)
   ·refine c5 (f9 _ _ _ _ _ _) ?_
    exact hx1 _ _ (hj1 (decide (x0.j6.d5 = 2)) H _ ((b.bring 1).bring 1) h)
def W0 (x0 : E5) (H : Hp) (K : Sl → Hp → Prop) : Prop :=
 m9 x0.j6.g5 H (fun d e =>
 r8 x0.j6.o7 e (fun f g =>
 ∀ (a : Sl) (b : Hp), Hle g b → SlH b 1 csl a [d, f] → a.n ≤ a.c →
 r5 a b (fun i j =>
 K i j)))
theorem a4f (x0 : E5) {H : Hp} {K : Sl → Hp → Prop} (h : W0 x0 H K) : a0O x0 H K := by
 refine Ct.of fun w0 w ps0 H0 R E I hR => b4L ?_
 unfold W0 at h
 unfold b6M
 refine B8 I (cs := (i4 x0.j6)) rfl fun v y b z => ?_
 refine M9 b fun aa a => ?_
 refine f6 P9 ?_
 refine f6 a3q ?_
 refine f6 P9 ?_
 refine f6 X9 ?_
 refine p5 (l1 Tryd.isAgg23 a rfl) ?_
 refine p5 (l1 Tryd.isAgg36 a rfl) ?_
 refine f5 Tryd.call97 h a ?_
 rintro _ _ _ ab d _ f ⟨g, rfl, rfl, h⟩
 refine ⟨(f _ a.lt1 (Inv.a1Q (Fi := []) a)), ?_⟩
 refine f5 Tryd.call95 h d ?_
 rintro _ _ _ ac i _ _ ⟨j, rfl, rfl, h⟩
 refine V2 (e := 123) (c := csl) (xs := [g, j]) i (a9g _ _ _ _ _ _) rfl rfl a8H a8I (nb rfl) fun k ad ae l m af => ?_
 obtain ⟨n, o, p, q, r⟩ := Inv.freezeC m l (by decide)
 replace h := h k n p q r
 refine f5 Tryd.call55 h o ?_
 rintro _ s _ ag t _ _ ⟨u, rfl, rfl, h⟩
 exact hR _ s _ _ t.drop ⟨u, rfl, rfl, h⟩
end Go.Proofs.YtaokfhdinhimfaaDoor
