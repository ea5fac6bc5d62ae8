/- Typed formulas of the program's functions, and the theorems that the contracts follow from them; printed by lift.py off the code. -/
import Derived.Test.YtaokfhdinhimfaaDooryAV1
namespace Go.Proofs.YtaokfhdinhimfaaDoor
open Go.RowKit
set_option maxRecDepth 100000
set_option maxHeartbeats 2000000
def a4w (x0 : Int) (H : Hp) (K : Int → Hp → Prop) : Prop :=
 (((decide (x0 < 1)) || (decide (6 < x0))) = true →
 K 0 H) ∧
 (((decide (x0 < 1)) || (decide (6 < x0))) = false →
 (0 : Int) ≤ x0 ∧ (x0 : Int) < 7 ∧
 K (([0, 6, 5, 4, 3, 2, 1] : List Int).getD (x0 : Int).toNat 0) H)
theorem a7G (x0 : Int) {H : Hp} {K : Int → Hp → Prop} (h : a4w x0 H K) : a2b x0 H K := by
 refine Ct.of fun w0 w ps0 H0 R E I hR => b6M ?_
 unfold a4w at h
 unfold F40
 refine c5 (D1 _ _ _ _ _ _) ?_
 simp only [Y3]
 refine c5 (Pu.g fun hb => by have a := hb; simp only [r7 a]; with_reducible exact (a0K _ _ _ _ _ _)) ?_
 refine c5 (a1V _ _) ?_
 refine s7 h (fun _ h => ?_) (fun _ h => ?_)
 ·exact hR _ H _ _ I ⟨0, rfl, rfl, h⟩
 ·refine c5 (a4k _ _ _ _ _ _ _) ?_
  obtain ⟨b, c, h⟩ := h
  refine c5 (b1L _ _ _ _ _ _ _ _ _ b c) ?_
  exact hR _ H _ _ I ⟨(([0, 6, 5, 4, 3, 2, 1] : List Int).getD (x0 : Int).toNat 0), rfl, rfl, h⟩
def a0E (x0 : m1) (H : Hp) (K : Sl → Int → Hp → Prop) : Prop :=
 a2d x0 2 H (fun a b c =>
 K a b c)
theorem a6b (x0 : m1) {H : Hp} {K : Sl → Int → Hp → Prop} (h : a0E x0 H K) : a2x x0 H K := by
 refine Ct.of fun w0 w ps0 H0 R E I hR => b6v ?_
 unfold a0E at h
 unfold F11
 refine C1 I (cs := (m0 x0)) rfl fun f g a i => ?_
 refine d3 (lW Tryd.isAgg41 Tryd.sizeOf41 rfl a) ?_
 refine d9 Tryd.call18 h a ?_
 rintro _ c _ j d _ _ ⟨e, b, rfl, rfl, h⟩
 refine c5 (g9 _ _ _ rfl) ?_
 refine c5 (g9 _ _ (vi b) rfl) ?_
 exact hR _ c _ _ d.drop ⟨e, b, rfl, rfl, h⟩
def U9 (x0 : d2) (a : (List c8)) (x1 : c8) (H : Hp) (K : d2 → (List c8) → Hp → Prop) : Prop :=
 (a.length + ([x1] : List c8).length) * 81 ≤ 140737488355328 ∧
 K (c6 x0) (a ++ [x1]) H
theorem a3V (x0 : d2) (a : (List c8)) (x1 : c8) {H : Hp} {K : d2 → (List c8) → Hp → Prop} (h : U9 x0 a x1 H K) : o5 x0 a x1 H K := by
 intro g0 f r g
 refine Ct.of fun w0 w ps0 H0 R E I hR => b6I ?_
 unfold U9 at h
 unfold F31
 refine C1 I (cs := (g8 x1)) rfl fun t u i v => ?_
 refine N7 i fun y b => ?_
 refine f7 (m5 _) ?_
 refine f7 E0 ?_
 refine f7 a0q ?_
 refine o8 (l1 Tryd.isAgg28 (b.bring 1) rfl) ?_
 refine o8 (lW Tryd.isAgg46 Tryd.sizeOf46 rfl b) ?_
 refine a0p (e := 46) (c := g8) (xs := [x1]) b (b5A _ _ _ _ _ _ _ _ _ _) rfl rfl a3D a3E (nb rfl) fun z aa ab j d k => ?_
 refine ⟨(k _ (b.bring 1).lt1), ?_⟩
 obtain ⟨l, h⟩ := h
 refine b6r (s := f) (xs := a) (d.bring 3) g (j.srcO ((d.bring 3).bring 1)) l fun m n ac o p ad => ?_
 refine f7 (m5 _) ?_
 refine f7 E0 ?_
 refine f7 a0q ?_
 refine N8 ((p.bring 1).drop.bring 2) Tryd.sizeOf28 fun ae q af => ?_
 exact hR _ H _ _ (((q.bring 2).drop.bring 1).bring 1) ⟨(c6 x0), (a ++ [x1]), m, n, rfl, rfl, o, h⟩
def R7 (x0 : d2) (a : (List c8)) (x1 : Sl) (x2 : Int) (H : Hp) (K : Int → d2 → (List c8) → Hp → Prop) : Prop :=
 ((x1.n : Int) = 0 →
 K x2 (c6 x0) a H) ∧
 (¬ ((x1.n : Int) = 0) →
 r8 (c6 x0) a H (fun b c d e =>
 K b (c6 c) d e))
theorem a3y (x0 : d2) (a : (List c8)) (x1 : Sl) (x2 : Int) {H : Hp} {K : Int → d2 → (List c8) → Hp → Prop} (h : R7 x0 a x1 x2 H K) : E7 x0 a x1 x2 H K := by
 intro g0 b c d
 refine Ct.of fun w0 w ps0 H0 R E I hR => b6J ?_
 unfold R7 at h
 unfold F32
 refine c5 (R0 _ _ _) ?_
 refine c5 (f8 _ _ _ _ _ _) ?_
 refine d7 h (fun _ h => ?_) (fun _ h => ?_)
 ·exact hR _ H _ _ ((I.bring 1).bring 1) ⟨x2, (c6 x0), a, b, c, rfl, rfl, d, h⟩
 ·refine d9 Tryd.call12 (h g0 b c d) ((I.bring 1).bring 1) ?_
  rintro _ e _ n f _ _ ⟨g, i, j, k, l, rfl, rfl, m, h⟩
  exact hR _ e _ _ ((f.bring 1).bring 1) ⟨g, (c6 i), j, k, l, rfl, rfl, m, h⟩
def V0 (x0 : d2) (b : (List c8)) (x1 : m2) (x2 : Int) (x3 : Int) (x4 : Int) (H : Hp) (K : d2 → (List c8) → Hp → Prop) : Prop :=
 (x1.d5 = 1 →
 B6 x2 x3 1 H (fun r s =>
 o5 (c6 x0) b r s (fun t u v =>
 K (c6 t) u v))) ∧
 (¬ (x1.d5 = 1) →
 (x1.d5 = 2 →
 B6 x2 x4 1 H (fun y z =>
 o5 (c6 x0) b y z (fun aa ab ac =>
 K (c6 aa) ab ac))) ∧
 (¬ (x1.d5 = 2) →
 (x1.d5 = 4 →
 (0 : Int) ≤ 0 ∧ (0 : Int) < x1.o7.n ∧ ∃ c : m2, EltH H x1.o7 0 4 (f9 c) ∧
 o9 (c6 x0) b c x2 x4 x3 H (fun ad ae af =>
 K (c6 ad) ae af)) ∧
 (¬ (x1.d5 = 4) →
 (x1.d5 = 5 →
 r8 (c6 x0) b H (fun d ag ah e =>
 (0 : Int) ≤ 0 ∧ (0 : Int) < x1.o7.n ∧ ∃ f : m2, EltH e x1.o7 0 4 (f9 f) ∧
 o9 (c6 ag) ah f x2 d x4 e (fun ai aj g =>
 (0 : Int) ≤ 1 ∧ (1 : Int) < x1.o7.n ∧ ∃ i : m2, EltH g x1.o7 1 4 (f9 i) ∧
 o9 (c6 ai) aj i d x3 x4 g (fun ak al am =>
 K (c6 ak) al am)))) ∧
 (¬ (x1.d5 = 5) →
 (x1.d5 = 6 →
 r8 (c6 x0) b H (fun j an ao k =>
 (0 : Int) ≤ 0 ∧ (0 : Int) < x1.o7.n ∧ ∃ l : m2, EltH k x1.o7 0 4 (f9 l) ∧
 o9 (c6 an) ao l x2 x3 j k (fun ap aq m =>
 (0 : Int) ≤ 1 ∧ (1 : Int) < x1.o7.n ∧ ∃ o : m2, EltH m x1.o7 1 4 (f9 o) ∧
 o9 (c6 ap) aq o j x3 x4 m (fun ar au av =>
 K (c6 ar) au av)))) ∧
 (¬ (x1.d5 = 6) →
 J8 (c6 x0) b x1.g5 x2 0 H (fun p q aw ax ay az =>
 B6 aw x3 12 az (fun a ba =>
 o5 (c6 ax) ay (c8.mk a.Q5 a.fTo a.d5 a.a1Y a.Z3 x1.fOp p q) ba (fun bb bc bd =>
 a2b x1.fOp bd (fun be bf =>
 o5 (c6 bb) bc (c8.mk a.Q5 x4 a.d5 a.a1Y a.Z3 be p q) bf (fun bg bh bi =>
 K (c6 bg) bh bi))))))))))
theorem a3W (x0 : d2) (t : (List c8)) (x1 : m2) (x2 : Int) (x3 : Int) (x4 : Int) {H : Hp} {K : d2 → (List c8) → Hp → Prop} (h : V0 x0 t x1 x2 x3 x4 H K) : o9 x0 t x1 x2 x3 x4 H K := by
 intro g0 e f g
 refine Ct.of fun w0 w ps0 H0 R E I hR => b6K ?_
 unfold V0 at h
 unfold F33
 refine C1 I (cs := (f9 x1)) rfl fun dz ea b eb => ?_
 refine c5 a5E ?_
 refine d3 (l1 Tryd.isAgg3 b rfl) ?_
 refine c5 (f8 _ _ _ _ _ _) ?_
 refine d7 h (fun _ h => ?_) (fun _ h => ?_)
 ·refine d9 Tryd.call29 h b ?_
  rintro _ _ _ ec ab _ _ ⟨ed, rfl, rfl, h⟩
  refine d9 Tryd.call31 (h g0 e f g) ((ab.bring 2).bring 2) ?_
  rintro _ ac _ ee ad _ _ ⟨ae, af, ag, ah, rfl, rfl, ai, h⟩
  exact hR _ ac _ _ (((ad.bring 2).drop.bring 1).bring 1) ⟨(c6 ae), af, ag, ah, rfl, rfl, ai, h⟩
 ·refine c5 (f8 _ _ _ _ _ _) ?_
  refine d7 h (fun _ h => ?_) (fun _ h => ?_)
  ·refine d9 Tryd.call29 h b ?_
   rintro _ _ _ ef aj _ _ ⟨eg, rfl, rfl, h⟩
   refine d9 Tryd.call31 (h g0 e f g) ((aj.bring 2).bring 2) ?_
   rintro _ ak _ eh al _ _ ⟨am, an, ao, ap, rfl, rfl, aq, h⟩
   exact hR _ ak _ _ (((al.bring 2).drop.bring 1).bring 1) ⟨(c6 am), an, ao, ap, rfl, rfl, aq, h⟩
  ·refine c5 (f8 _ _ _ _ _ _) ?_
   refine d7 h (fun _ h => ?_) (fun _ h => ?_)
   ·refine c5 Z1 ?_
    refine d3 (l1 Tryd.isAgg36 b rfl) ?_
    obtain ⟨ar, au, av, j, h⟩ := h
    obtain ⟨ei, ej, aw, j⟩ := j
    refine c5 (S5 aw _ _ _ _ ar au) ?_
    refine d3 (ldA (vs := (f9 av)) Tryd.isAgg89 Tryd.sizeOf89 rfl (b.atH j)) ?_
    refine d9 Tryd.call33 (h g0 e f g) ((b.bring 2).bring 2) ?_
    rintro _ ax _ ek ay _ _ ⟨az, ba, bb, bc, rfl, rfl, bd, h⟩
    exact hR _ ax _ _ (((ay.bring 2).drop.bring 1).bring 1) ⟨(c6 az), ba, bb, bc, rfl, rfl, bd, h⟩
   ·refine c5 (f8 _ _ _ _ _ _) ?_
    refine d7 h (fun _ h => ?_) (fun _ h => ?_)
    ·refine d9 Tryd.call12 (h g0 e f g) ((b.bring 2).bring 2) ?_
     rintro _ _ _ el k _ _ ⟨em, en, eo, be, bf, rfl, rfl, bg, h⟩
     refine c5 Z1 ?_
     refine d3 (l1 Tryd.isAgg36 (k.bring 2) rfl) ?_
     obtain ⟨bh, bi, bj, l, h⟩ := h
     obtain ⟨ep, eq, bk, l⟩ := l
     refine c5 (S5 bk _ _ _ _ bh bi) ?_
     refine d3 (ldA (vs := (f9 bj)) Tryd.isAgg89 Tryd.sizeOf89 rfl (k.atH l)) ?_
     refine d9 Tryd.call33 (h g0 be bf bg) ((k.bring 1).bring 1) ?_
     rintro _ _ _ er m _ _ ⟨es, et, bl, bm, rfl, rfl, bn, h⟩
     refine c5 Z1 ?_
     refine d3 (l1 Tryd.isAgg36 (m.bring 2) rfl) ?_
     obtain ⟨bo, bp, bq, n, h⟩ := h
     obtain ⟨eu, ev, br, n⟩ := n
     refine c5 (S5 br _ _ _ _ bo bp) ?_
     refine d3 (ldA (vs := (f9 bq)) Tryd.isAgg89 Tryd.sizeOf89 rfl (m.atH n)) ?_
     refine d9 Tryd.call33 (h g0 bl bm bn) ((m.bring 1).bring 1) ?_
     rintro _ bs _ ew bt _ _ ⟨bu, bv, bw, bz, rfl, rfl, ca, h⟩
     exact hR _ bs _ _ (((bt.bring 2).drop.bring 1).bring 1) ⟨(c6 bu), bv, bw, bz, rfl, rfl, ca, h⟩
    ·refine c5 (f8 _ _ _ _ _ _) ?_
     refine d7 h (fun _ h => ?_) (fun _ h => ?_)
     ·refine d9 Tryd.call12 (h g0 e f g) ((b.bring 2).bring 2) ?_
      rintro _ _ _ ex p _ _ ⟨ey, ez, fa, cb, cc, rfl, rfl, cd, h⟩
      refine c5 Z1 ?_
      refine d3 (l1 Tryd.isAgg36 (p.bring 2) rfl) ?_
      obtain ⟨ce, cf, cg, q, h⟩ := h
      obtain ⟨fb, fc, ch, q⟩ := q
      refine c5 (S5 ch _ _ _ _ ce cf) ?_
      refine d3 (ldA (vs := (f9 cg)) Tryd.isAgg89 Tryd.sizeOf89 rfl (p.atH q)) ?_
      refine d9 Tryd.call33 (h g0 cb cc cd) ((p.bring 1).bring 1) ?_
      rintro _ _ _ fd r _ _ ⟨fe, ff, ci, cj, rfl, rfl, ck, h⟩
      refine c5 Z1 ?_
      refine d3 (l1 Tryd.isAgg36 (r.bring 2) rfl) ?_
      obtain ⟨cl, cm, cn, s, h⟩ := h
      obtain ⟨fg, fh, co, s⟩ := s
      refine c5 (S5 co _ _ _ _ cl cm) ?_
      refine d3 (ldA (vs := (f9 cn)) Tryd.isAgg89 Tryd.sizeOf89 rfl (r.atH s)) ?_
      refine d9 Tryd.call33 (h g0 ci cj ck) ((r.bring 1).bring 1) ?_
      rintro _ cp _ fi cq _ _ ⟨cr, ct, cu, cv, rfl, rfl, cw, h⟩
      exact hR _ cp _ _ (((cq.bring 2).drop.bring 1).bring 1) ⟨(c6 cr), ct, cu, cv, rfl, rfl, cw, h⟩
     ·refine c5 a3O ?_
      refine d3 (l1 Tryd.isAgg23 b rfl) ?_
      refine d9 Tryd.call30 (h g0 e f g) ((b.bring 2).bring 2) ?_
      rintro _ _ _ fj cx _ _ ⟨c, d, cy, fk, fl, cz, da, rfl, rfl, db, h⟩
      refine c5 (g9 _ _ _ rfl) ?_
      refine c5 (g9 _ _ _ rfl) ?_
      refine c5 (g9 _ _ (vi cy) rfl) ?_
      refine q9 cx Tryd.zeroValue44 (cs := [(vi 0), (vi 0)]) rfl fun fm fn dc fo => ?_
      refine q9 dc Tryd.zeroValue44 (cs := [(vi 0), (vi 0)]) rfl fun fp fq dd fs => ?_
      refine s9 (dd.bring 1) Tryd.sizeOf44 (vs := (m4 c)) fun ft de fu => ?_
      refine s9 (de.bring 1) Tryd.sizeOf44 (vs := (m4 d)) fun fv df fw => ?_
      refine d9 Tryd.call29 h df ?_
      rintro _ _ _ fx dg _ _ ⟨a, rfl, rfl, h⟩
      refine q9 dg Tryd.zeroValue46 (cs := [(vi 0), (vi 0), (vi 0), (vi 0), (vi 0), (vi 0), (vi 0), (vi 0), (vi 0), (vi 0)]) rfl fun fy fz dh ga => ?_
      refine s9 dh Tryd.sizeOf46 (vs := (g8 a)) fun gb di gc => ?_
      refine N7 di fun gd i => ?_
      refine f7 a2w ?_
      refine o8 (l1 Tryd.isAgg3 (i.bring 5) rfl) ?_
      refine f7 a7W ?_
      refine o8 (lW Tryd.isAgg44 Tryd.sizeOf44 rfl (i.bring 2)) ?_
      refine o8 (lW Tryd.isAgg44 Tryd.sizeOf44 rfl (i.bring 1)) ?_
      refine N8 i Tryd.sizeOf3 fun ge u v => ?_
      refine ⟨(v _ (Inv.a9w ((i.bring 1).bring 1))), (v _ (Inv.a9w ((i.bring 2).bring 1))), ?_⟩
      refine f7 a2v ?_
      refine V4 u Tryd.sizeOf44 (vs := (m4 c)) (cs' := [(vi a.Q5), (vi a.fTo), (vi a.d5), (vi a.a1Y), (vi a.Z3), (vi x1.fOp), (vi c.G1), (vi c.y8), (vi a.fB.G1), (vi a.fB.y8)]) rfl rfl (nb rfl) rfl rfl fun gf dj dk => ?_
      refine ⟨(dk _ (Inv.a9w ((u.bring 1).bring 1))), ?_⟩
      refine f7 a5D ?_
      refine V4 dj Tryd.sizeOf44 (vs := (m4 d)) (cs' := [(vi a.Q5), (vi a.fTo), (vi a.d5), (vi a.a1Y), (vi a.Z3), (vi x1.fOp), (vi c.G1), (vi c.y8), (vi d.G1), (vi d.y8)]) rfl rfl (nb rfl) rfl rfl fun gg y gh => ?_
      refine d3 (ldA Tryd.isAgg46 Tryd.sizeOf46 rfl (y.at1 (o := 0) (vs := [(vi a.Q5), (vi a.fTo), (vi a.d5), (vi a.a1Y), (vi a.Z3), (vi x1.fOp), (vi c.G1), (vi c.y8), (vi d.G1), (vi d.y8)]) (nb rfl) rfl)) ?_
      refine d9 Tryd.call31 (h g0 cz da db) ((y.bring 4).bring 4) ?_
      rintro _ _ _ gi z _ _ ⟨gj, gk, dl, dm, rfl, rfl, dn, h⟩
      refine c5 a2w ?_
      refine d3 (l1 Tryd.isAgg3 (z.bring 5) rfl) ?_
      refine d9 Tryd.call40 h z ?_
      rintro _ _ _ gl dp _ _ ⟨dq, rfl, rfl, h⟩
      refine c5 b1J ?_
      refine N8 (dp.bring 2) Tryd.sizeOf3 fun gm dr gn => ?_
      refine c5 a7W ?_
      refine N8 dr Tryd.sizeOf3 fun go aa gp => ?_
      refine d3 (ldA Tryd.isAgg46 Tryd.sizeOf46 rfl (aa.at1 (o := 0) (vs := [(vi a.Q5), (vi x4), (vi a.d5), (vi a.a1Y), (vi a.Z3), (vi dq), (vi c.G1), (vi c.y8), (vi d.G1), (vi d.y8)]) (nb rfl) rfl)) ?_
      refine d9 Tryd.call31 (h g0 dl dm dn) ((aa.bring 2).bring 2) ?_
      rintro _ ds _ gq dt _ _ ⟨du, dv, dw, dx, rfl, rfl, dy, h⟩
      exact hR _ ds _ _ ((((((dt.bring 2).drop.bring 2).drop.bring 2).drop.bring 2).drop.bring 1).bring 1) ⟨(c6 du), dv, dw, dx, rfl, rfl, dy, h⟩
def J4 (b4Z : (List Int)) (b5a : Sl) (b5b : Int) (S3 : Int) (O8 : Sl) (O9 : Int) (P0 : Sl) (P1 : Int) (P2 : Int) (L9 : (List c8)) (Y1 : (Option Nat)) (Y2 : (Option Nat)) (H : Hp) (n2 : (Int × Sl × Int × Sl × Int × Int × (List c8) × (Option Nat) × (Option Nat)) → Hp → Prop) (K : d2 → (List c8) → Hp → Prop) : Prop :=
 (S3 < b5b →
 (0 : Int) ≤ S3 ∧ (S3 : Int) < b5a.n ∧ ∃ b : j9, EltH H b5a S3 6 (j7 b) ∧
 (0 : Int) ≤ S3 ∧ ∃ c : Int, (b4Z)[(S3 : Int).toNat]? = some c ∧
 (0 : Int) ≤ IntKind.wrap .i64 (S3 + 1) ∧ ∃ d : Int, (b4Z)[(IntKind.wrap .i64 (S3 + 1) : Int).toNat]? = some d ∧
 U3 (d2.mk (C0.mk O8 O9 P0 P1 P2 (Sl.mk none 0 0)) Y1 Y2) L9 b c d H (fun a e f =>
 n2 ((IntKind.wrap .i64 (S3 + 1)), a.fc.u9, a.fc.J7, a.fc.A7, a.fc.A9, a.fc.C2, e, a.fvars, a.farrays) f)) ∧
 (¬ (S3 < b5b) →
 K (d2.mk (C0.mk O8 O9 P0 P1 P2 (Sl.mk none 0 0)) Y1 Y2) L9 H)
def J5 (b7I : Sl) (a0x : Int) (a4L : (List Int)) (J9 : Sl) (K0 : Int) (K1 : Sl) (K2 : Int) (K3 : Int) (G9 : (List c8)) (E9 : (Option Nat)) (E4 : (Option Nat)) (H : Hp) (K : d2 → (List c8) → Hp → Prop) : Prop :=
 (a4L.length + ([a0x] : List Int).length) * 9 ≤ 140737488355328 ∧
 TL ((0, J9, K0, K1, K2, K3, G9, E9, E4) : Int × Sl × Int × Sl × Int × Int × (List c8) × (Option Nat) × (Option Nat)) H fun (s : Int × Sl × Int × Sl × Int × Int × (List c8) × (Option Nat) × (Option Nat)) H n2 => J4 (a4L ++ [a0x]) b7I (b7I.n : Int) s.1 s.2.1 s.2.2.1 s.2.2.2.1 s.2.2.2.2.1 s.2.2.2.2.2.1 s.2.2.2.2.2.2.1 s.2.2.2.2.2.2.2.1 s.2.2.2.2.2.2.2.2 H n2 K
def J6 (b8Z : Sl) (b9a : Int) (b5c : Int) (a0f : (List Int)) (a0X : Int) (M3 : Sl) (M4 : Int) (M5 : Sl) (M6 : Int) (M7 : Int) (K7 : (List c8)) (V8 : (Option Nat)) (V9 : (Option Nat)) (H : Hp) (n3 : ((List Int) × Int × Sl × Int × Sl × Int × Int × (List c8) × (Option Nat) × (Option Nat)) → Hp → Prop) (K : d2 → (List c8) → Hp → Prop) : Prop :=
 (a0X < b5c →
 r8 (d2.mk (C0.mk M3 M4 M5 M6 M7 (Sl.mk none 0 0)) V8 V9) K7 H (fun b a c d =>
 (a0f.length + ([b] : List Int).length) * 9 ≤ 140737488355328 ∧
 n3 ((a0f ++ [b]), (IntKind.wrap .i64 (a0X + 1)), a.fc.u9, a.fc.J7, a.fc.A7, a.fc.A9, a.fc.C2, c, a.fvars, a.farrays) d)) ∧
 (¬ (a0X < b5c) →
 J5 b8Z b9a a0f M3 M4 M5 M6 M7 K7 V8 V9 H K)
def T8 (x0 : d2) (a : (List c8)) (x1 : Sl) (x2 : Int) (x3 : Int) (H : Hp) (K : d2 → (List c8) → Hp → Prop) : Prop :=
 ((x1.n : Int) = 0 →
 K (c6 x0) a H) ∧
 (¬ ((x1.n : Int) = 0) →
 TL (([x2], 0, x0.fc.u9, x0.fc.J7, x0.fc.A7, x0.fc.A9, x0.fc.C2, a, x0.fvars, x0.farrays) : (List Int) × Int × Sl × Int × Sl × Int × Int × (List c8) × (Option Nat) × (Option Nat)) H fun (s : (List Int) × Int × Sl × Int × Sl × Int × Int × (List c8) × (Option Nat) × (Option Nat)) H n3 => J6 x1 x3 (IntKind.wrap .i64 ((x1.n : Int) - 1)) s.1 s.2.1 s.2.2.1 s.2.2.2.1 s.2.2.2.2.1 s.2.2.2.2.2.1 s.2.2.2.2.2.2.1 s.2.2.2.2.2.2.2.1 s.2.2.2.2.2.2.2.2.1 s.2.2.2.2.2.2.2.2.2 H n3 K)
theorem a3K (x0 : d2) (k : (List c8)) (x1 : Sl) (x2 : Int) (x3 : Int) {H : Hp} {K : d2 → (List c8) → Hp → Prop} (h : T8 x0 k x1 x2 x3 H K) : C4 x0 k x1 x2 x3 H K := by
 intro g0 z aa ab
 refine Ct.of fun w0 w ps0 H0 R E I hR => b6x ?_
 unfold T8 at h
 unfold F13
 refine c5 (R0 _ _ _) ?_
 refine c5 (f8 _ _ _ _ _ _) ?_
 refine d7 h (fun _ h => ?_) (fun _ h => ?_)
 ·exact hR _ H _ _ ((I.bring 1).bring 1) ⟨(c6 x0), k, z, aa, rfl, rfl, ab, h⟩
 ·refine a0p (e := 3) (c := a1R) (xs := [x2]) I (a8s _) rfl rfl a7B a7C (nb rfl) fun ak al cb am an cc => ?_
  have hj1 : ∀ (a4L : (List Int)) (J9 : Sl) (K0 : Int) (K1 : Sl) (K2 : Int) (K3 : Int) (G9 : (List c8)) (E9 : (Option Nat)) (E4 : (Option Nat)) (a9n : Sl) (Fs8j1 : Frag) (Q8 : Sl) (Q9 : Frag) (H : Hp) (w : World) (_ : RowL 3 1 a1R a9n a4L Fs8j1) (_ : RowL 46 10 g8 Q8 G9 Q9) (_ : Inv w0 ps0 H0 H [bx g0 59 [(vs J9), (vi K0), (vs K1), (vi K2), (vi K3), (vs Q8), (Value.map E9), (Value.map E4)], Fs8j1, Q9] w) (_ : J5 x1 x3 a4L J9 K0 K1 K2 K3 G9 E9 E4 H K), a9S (Value.pointer (some ⟨g0, 0, none⟩)) (vs x1) (vi x3) (vs a9n) w R E := by
   intro a4L J9 K0 K1 K2 K3 G9 E9 E4 a9n Fs8j1 Q8 Q9 H w b8L a5L I h
   unfold a9S
   intro _
   unfold J5 at h
   refine a0p (e := 3) (c := a1R) (xs := [x3]) I (a8s _) rfl rfl a7B a7C (nb rfl) fun cd ce cf ao ac cg => ?_
   obtain ⟨ap, h⟩ := h
   refine b2K (s := a9n) (xs := a4L) (ac.bring 2) b8L (ao.srcO ((ac.bring 2).bring 1)) ap fun ch aq ci g ar cj => ?_
   refine c5 (R0 _ _ _) ?_
   obtain ⟨o, i, au, av⟩ := h
   refine G5 (J := fun n l w => ∃ (s : Int × Sl × Int × Sl × Int × Int × (List c8) × (Option Nat) × (Option Nat)) (H : Hp) (a2F : Sl) (a2G : Frag) , n = i s ∧ l = (match s with | (S3, O8, O9, P0, P1, P2, L9, Y1, Y2) => [(vi S3)]) ∧ (match s with | (S3, O8, O9, P0, P1, P2, L9, Y1, Y2) => RowL 46 10 g8 a2F L9 a2G) ∧ (match s with | (S3, O8, O9, P0, P1, P2, L9, Y1, Y2) => Inv w0 ps0 H0 H [bx g0 59 [(vs O8), (vi O9), (vs P0), (vi P1), (vi P2), (vs a2F), (Value.map Y1), (Value.map Y2)], aq, a2G] w) ∧ o s H) ⟨_, (0, J9, K0, K1, K2, K3, G9, E9, E4), H, Q8, Q9, rfl, rfl, a5L, ((((ar.bring 1).drop.bring 2).bring 1).bring 2), au⟩ ?_
   rintro ck cl w next2 ⟨⟨S3, O8, O9, P0, P1, P2, L9, Y1, Y2⟩, H, a2F, a2G, rfl, p, a6c, I, aw⟩ hn2
   dsimp only at p I a6c
   simp only [List.map_cons, List.map_nil, List.cons.injEq, and_true] at p
   have e33 := p
   simp only [e33]
   obtain ⟨n2, hm2, h⟩ : ∃ n2 : (Int × Sl × Int × Sl × Int × Int × (List c8) × (Option Nat) × (Option Nat)) → Hp → Prop, (∀ s' H', n2 s' H' → o s' H' ∧ i s' < i (S3, O8, O9, P0, P1, P2, L9, Y1, Y2)) ∧ J4 (a4L ++ [x3]) x1 (x1.n : Int) S3 O8 O9 P0 P1 P2 L9 Y1 Y2 H n2 K := ⟨_, fun _ _ h => h, av (S3, O8, O9, P0, P1, P2, L9, Y1, Y2) H (fun s' H' => o s' H' ∧ i s' < i (S3, O8, O9, P0, P1, P2, L9, Y1, Y2)) aw (fun _ _ a b => ⟨a, b⟩)⟩
   unfold b2U
   unfold J4 at h
   refine c5 (D1 _ _ _ _ _ _) ?_
   refine d7 h (fun _ h => ?_) (fun _ h => ?_)
   ·obtain ⟨ax, ay, ad, q, h⟩ := h
    obtain ⟨cm, cn, az, q⟩ := q
    refine c5 (a2M az _ _ _ _ ax ay) ?_
    refine d3 (ldA (vs := (j7 ad)) Tryd.isAgg39 Tryd.sizeOf39 rfl (I.atH q)) ?_
    refine q9 I Tryd.zeroValue39 (cs := [(vi 0), (Value.string ⟨#[]⟩), (Value.slice none 0 0), (Value.slice none 0 0), (Value.slice none 0 0), (Value.slice none 0 0)]) rfl fun co cp ba cq => ?_
    refine s9 ba Tryd.sizeOf39 (vs := (j7 ad)) fun cr bb ct => ?_
    refine N7 bb fun cu m => ?_
    obtain ⟨ae, bc, r, h⟩ := h
    obtain ⟨cv, cw, af, cx⟩ := g.addr r
    refine f7 (a9F af _ _ _ _ ae (g.lt ae r)) ?_
    refine f7 (s8 _ _ _ _ _ _) ?_
    obtain ⟨ag, bd, t, h⟩ := h
    obtain ⟨cy, cz, ah, da⟩ := g.addr t
    refine f7 (a9F ah _ _ _ _ ag (g.lt ag t)) ?_
    refine o8 (lW Tryd.isAgg39 Tryd.sizeOf39 rfl m) ?_
    refine o8 (ld1 (v := (vi bc)) Tryd.isAgg3 (g.atW (m.bring 2) af r)) ?_
    refine o8 (ld1 (v := (vi bd)) Tryd.isAgg3 (g.atW (m.bring 2) ah t)) ?_
    refine d9 Tryd.call19 (h g0 a2F a2G a6c) ((m.bring 3).bring 2) ?_
    rintro _ be _ db bf _ _ ⟨d, bg, bh, bi, rfl, rfl, bj, h⟩
    refine c5 (s8 _ _ _ _ _ _) ?_
    exact hn2 _ _ _ (hm2 _ _ h).2 ⟨((IntKind.wrap .i64 (S3 + 1)), d.fc.u9, d.fc.J7, d.fc.A7, d.fc.A9, d.fc.C2, bg, d.fvars, d.farrays), be, bh, bi, rfl, rfl, bj, ((((bf.bring 2).drop.bring 1).bring 2).bring 2), (hm2 _ _ h).1⟩
   ·exact hR _ H _ _ (((I.bring 1).drop.bring 1).bring 1) ⟨(d2.mk (C0.mk O8 O9 P0 P1 P2 (Sl.mk none 0 0)) Y1 Y2), L9, a2F, a2G, rfl, rfl, a6c, h⟩
  refine r5 fun j1 hx1 => ?_
  refine c5 (R0 _ _ _) ?_
  refine c5 (a6w _ _ _ _ _ _) ?_
  obtain ⟨u, j, bk, bl⟩ := h
  refine G5 (J := fun n l w => ∃ (s : (List Int) × Int × Sl × Int × Sl × Int × Int × (List c8) × (Option Nat) × (Option Nat)) (H : Hp) (a8g : Sl) (Fs8l3 : Frag) (a2H : Sl) (a2I : Frag) , n = j s ∧ l = (match s with | (a0f, a0X, M3, M4, M5, M6, M7, K7, V8, V9) => [(vs a8g), (vi a0X)]) ∧ (match s with | (a0f, a0X, M3, M4, M5, M6, M7, K7, V8, V9) => RowL 3 1 a1R a8g a0f Fs8l3) ∧ (match s with | (a0f, a0X, M3, M4, M5, M6, M7, K7, V8, V9) => RowL 46 10 g8 a2H K7 a2I) ∧ (match s with | (a0f, a0X, M3, M4, M5, M6, M7, K7, V8, V9) => Inv w0 ps0 H0 H [bx g0 59 [(vs M3), (vi M4), (vs M5), (vi M6), (vi M7), (vs a2H), (Value.map V8), (Value.map V9)], Fs8l3, a2I] w) ∧ u s H) ⟨_, ([x2], 0, x0.fc.u9, x0.fc.J7, x0.fc.A7, x0.fc.A9, x0.fc.C2, k, x0.fvars, x0.farrays), H, ak, al, z, aa, rfl, rfl, am, ab, (((an.bring 2).bring 1).bring 2), bk⟩ ?_
  rintro dc dd w next3 ⟨⟨a0f, a0X, M3, M4, M5, M6, M7, K7, V8, V9⟩, H, a8g, Fs8l3, a2H, a2I, rfl, y, b2d, a6d, I, bm⟩ hn3
  dsimp only at y I b2d a6d
  simp only [List.map_cons, List.map_nil, List.cons.injEq, and_true] at y
  obtain ⟨e8, e19⟩ := y
  simp only [e8, e19]
  obtain ⟨n3, hm3, h⟩ : ∃ n3 : ((List Int) × Int × Sl × Int × Sl × Int × Int × (List c8) × (Option Nat) × (Option Nat)) → Hp → Prop, (∀ s' H', n3 s' H' → u s' H' ∧ j s' < j (a0f, a0X, M3, M4, M5, M6, M7, K7, V8, V9)) ∧ J6 x1 x3 (IntKind.wrap .i64 ((x1.n : Int) - 1)) a0f a0X M3 M4 M5 M6 M7 K7 V8 V9 H n3 K := ⟨_, fun _ _ h => h, bl (a0f, a0X, M3, M4, M5, M6, M7, K7, V8, V9) H (fun s' H' => u s' H' ∧ j s' < j (a0f, a0X, M3, M4, M5, M6, M7, K7, V8, V9)) bm (fun _ _ a b => ⟨a, b⟩)⟩
  unfold b2V
  unfold J6 at h
  refine c5 (D1 _ _ _ _ _ _) ?_
  refine d7 h (fun _ h => ?_) (fun _ h => ?_)
  ·refine d9 Tryd.call12 (h g0 a2H a2I a6d) ((I.bring 2).bring 1) ?_
   rintro _ bn _ de bo _ _ ⟨ai, f, bp, bq, br, rfl, rfl, bs, h⟩
   refine a0p (e := 3) (c := a1R) (xs := [ai]) bo (a8s _) rfl rfl a7B a7C (nb rfl) fun df dg dh bt aj di => ?_
   obtain ⟨bu, h⟩ := h
   refine b2K (s := a8g) (xs := a0f) (aj.bring 3) b2d (bt.srcO ((aj.bring 3).bring 1)) bu fun bv bw dj bz ca dk => ?_
   refine c5 (s8 _ _ _ _ _ _) ?_
   exact hn3 _ _ _ (hm3 _ _ h).2 ⟨((a0f ++ [ai]), (IntKind.wrap .i64 (a0X + 1)), f.fc.u9, f.fc.J7, f.fc.A7, f.fc.A9, f.fc.C2, bp, f.fvars, f.farrays), bn, bv, bw, bq, br, rfl, rfl, bz, bs, ((((ca.bring 1).drop.bring 2).bring 1).bring 2), (hm3 _ _ h).1⟩
  ·exact hx1 _ _ (hj1 a0f M3 M4 M5 M6 M7 K7 V8 V9 a8g Fs8l3 a2H a2I H _ b2d a6d (((I.bring 2).bring 2).bring 2) h)
def p7 (O5 : (List c7)) (H : Hp) (K : Sl → Hp → Prop) : Prop :=
 ∀ (A6 : Sl) (a : Hp), Hle H a → SlH a 1 l7 A6 O5 → A6.n ≤ A6.c →
 K A6 a
def p8 (U8 : Sl) (W2 : Int) (o6 : (List c7)) (m6 : Int) (H : Hp) (n2 : ((List c7) × Int) → Hp → Prop) (K : Sl → Hp → Prop) : Prop :=
 (m6 < W2 →
 (0 : Int) ≤ m6 ∧ (m6 : Int) < U8.n ∧ ∃ a : j6, EltH H U8 m6 2 (f3 a) ∧
 a2y a H (fun b c =>
 (o6.length + ([b] : List c7).length) * 17 ≤ 140737488355328 ∧
 n2 ((o6 ++ [b]), (IntKind.wrap .i64 (m6 + 1))) c)) ∧
 (¬ (m6 < W2) →
 p7 o6 H K)
def z7 (x0 : Sl) (H : Hp) (K : Sl → Hp → Prop) : Prop :=
 TL (([], 0) : (List c7) × Int) H fun (s : (List c7) × Int) H n2 => p8 x0 (x0.n : Int) s.1 s.2 H n2 K
theorem Q0 (x0 : Sl) {H : Hp} {K : Sl → Hp → Prop} (h : z7 x0 H K) : y9 x0 H K := by
 refine Ct.of fun w0 w ps0 H0 R E I hR => b7c ?_
 unfold z7 at h
 unfold F56
 have hj1 : ∀ (O5 : (List c7)) (A6 : Sl) (Fs5j1 : Frag) (H : Hp) (w : World) (_ : RowL 126 1 l7 A6 O5 Fs5j1) (_ : Inv w0 ps0 H0 H [Fs5j1] w) (_ : p7 O5 H K), b0h (vs A6) w R E := by
  intro O5 A6 Fs5j1 H w a5N I h
  unfold b0h
  intro _
  unfold p7 at h
  obtain ⟨j, q, r, t, u⟩ := Inv.freezeC I a5N (by decide)
  replace h := h A6 j r t u
  exact hR _ j _ _ q ⟨A6, rfl, rfl, h⟩
 refine r5 fun j1 hx1 => ?_
 refine c5 (a4G _ _ _) ?_
 obtain ⟨f, d, v, y⟩ := h
 refine G5 (J := fun n l w => ∃ (s : (List c7) × Int) (H : Hp) (O6 : Sl) (Fs5l2 : Frag) , n = d s ∧ l = (match s with | (o6, m6) => [(vs O6), (vi m6)]) ∧ (match s with | (o6, m6) => RowL 126 1 l7 O6 o6 Fs5l2) ∧ (match s with | (o6, m6) => Inv w0 ps0 H0 H [Fs5l2] w) ∧ f s H) ⟨_, ([], 0), H, (Sl.mk none 0 0), [], rfl, rfl, (RowL.nil E1 G6), I.nil, v⟩ ?_
 rintro am an w next2 ⟨⟨o6, m6⟩, H, O6, Fs5l2, rfl, g, a0z, I, z⟩ hn2
 dsimp only at g I a0z
 simp only [List.map_cons, List.map_nil, List.cons.injEq, and_true] at g
 obtain ⟨e5, e10⟩ := g
 simp only [e5, e10]
 obtain ⟨n2, hm2, h⟩ : ∃ n2 : ((List c7) × Int) → Hp → Prop, (∀ s' H', n2 s' H' → f s' H' ∧ d s' < d (o6, m6)) ∧ p8 x0 (x0.n : Int) o6 m6 H n2 K := ⟨_, fun _ _ h => h, y (o6, m6) H (fun s' H' => f s' H' ∧ d s' < d (o6, m6)) z (fun _ _ a b => ⟨a, b⟩)⟩
 unfold b3l
 unfold p8 at h
 refine c5 (D1 _ _ _ _ _ _) ?_
 refine d7 h (fun _ h => ?_) (fun _ h => ?_)
 ·obtain ⟨aa, ab, k, i, h⟩ := h
  obtain ⟨ao, ap, ac, i⟩ := i
  refine c5 (a1Z ac _ _ _ _ aa ab) ?_
  refine d3 (ldA (vs := (f3 k)) Tryd.isAgg35 Tryd.sizeOf35 rfl (I.atH i)) ?_
  refine q9 I Tryd.zeroValue35 (cs := [(Value.string ⟨#[]⟩), (vi 0)]) rfl fun aq ar ad au => ?_
  refine s9 ad Tryd.sizeOf35 (vs := (f3 k)) fun av m aw => ?_
  refine d3 (lW Tryd.isAgg35 Tryd.sizeOf35 rfl m) ?_
  refine d9 Tryd.call57 h m ?_
  rintro _ ae _ ax af _ _ ⟨o, rfl, rfl, h⟩
  refine a0p (e := 126) (c := l7) (xs := [o]) af (a5H _) rfl rfl E1 G6 (nb rfl) fun ay az ba ag p bb => ?_
  obtain ⟨ah, h⟩ := h
  refine a5d (s := O6) (xs := o6) (p.bring 2) a0z (ag.srcO ((p.bring 2).bring 1)) ah fun ai aj bc ak al bd => ?_
  refine c5 (s8 _ _ _ _ _ _) ?_
  exact hn2 _ _ _ (hm2 _ _ h).2 ⟨((o6 ++ [o]), (IntKind.wrap .i64 (m6 + 1))), ae, ai, aj, rfl, rfl, ak, ((al.bring 1).drop.bring 1).drop, (hm2 _ _ h).1⟩
 ·exact hx1 _ _ (hj1 o6 O6 Fs5l2 H _ a0z I h)
def p9 (O5 : (List c7)) (H : Hp) (K : Sl → Hp → Prop) : Prop :=
 ∀ (A6 : Sl) (a : Hp), Hle H a → SlH a 1 l7 A6 O5 → A6.n ≤ A6.c →
 K A6 a
def q6 (U8 : Sl) (W2 : Int) (o6 : (List c7)) (m6 : Int) (H : Hp) (n2 : ((List c7) × Int) → Hp → Prop) (K : Sl → Hp → Prop) : Prop :=
 (m6 < W2 →
 (0 : Int) ≤ m6 ∧ (m6 : Int) < U8.n ∧ ∃ a : j9, EltH H U8 m6 6 (j7 a) ∧
 a2z a H (fun b c =>
 (o6.length + ([b] : List c7).length) * 17 ≤ 140737488355328 ∧
 n2 ((o6 ++ [b]), (IntKind.wrap .i64 (m6 + 1))) c)) ∧
 (¬ (m6 < W2) →
 p9 o6 H K)
def z8 (x0 : Sl) (H : Hp) (K : Sl → Hp → Prop) : Prop :=
 TL (([], 0) : (List c7) × Int) H fun (s : (List c7) × Int) H n2 => q6 x0 (x0.n : Int) s.1 s.2 H n2 K
theorem Q1 (x0 : Sl) {H : Hp} {K : Sl → Hp → Prop} (h : z8 x0 H K) : m8 x0 H K := by
 refine Ct.of fun w0 w ps0 H0 R E I hR => b7e ?_
 unfold z8 at h
 unfold F58
 have hj1 : ∀ (O5 : (List c7)) (A6 : Sl) (Fs5j1 : Frag) (H : Hp) (w : World) (_ : RowL 126 1 l7 A6 O5 Fs5j1) (_ : Inv w0 ps0 H0 H [Fs5j1] w) (_ : p9 O5 H K), b0i (vs A6) w R E := by
  intro O5 A6 Fs5j1 H w a5N I h
  unfold b0i
  intro _
  unfold p9 at h
  obtain ⟨j, q, r, t, u⟩ := Inv.freezeC I a5N (by decide)
  replace h := h A6 j r t u
  exact hR _ j _ _ q ⟨A6, rfl, rfl, h⟩
 refine r5 fun j1 hx1 => ?_
 refine c5 (R0 _ _ _) ?_
 obtain ⟨f, d, v, y⟩ := h
 refine G5 (J := fun n l w => ∃ (s : (List c7) × Int) (H : Hp) (O6 : Sl) (Fs5l2 : Frag) , n = d s ∧ l = (match s with | (o6, m6) => [(vs O6), (vi m6)]) ∧ (match s with | (o6, m6) => RowL 126 1 l7 O6 o6 Fs5l2) ∧ (match s with | (o6, m6) => Inv w0 ps0 H0 H [Fs5l2] w) ∧ f s H) ⟨_, ([], 0), H, (Sl.mk none 0 0), [], rfl, rfl, (RowL.nil E1 G6), I.nil, v⟩ ?_
 rintro am an w next2 ⟨⟨o6, m6⟩, H, O6, Fs5l2, rfl, g, a0z, I, z⟩ hn2
 dsimp only at g I a0z
 simp only [List.map_cons, List.map_nil, List.cons.injEq, and_true] at g
 obtain ⟨e5, e10⟩ := g
 simp only [e5, e10]
 obtain ⟨n2, hm2, h⟩ : ∃ n2 : ((List c7) × Int) → Hp → Prop, (∀ s' H', n2 s' H' → f s' H' ∧ d s' < d (o6, m6)) ∧ q6 x0 (x0.n : Int) o6 m6 H n2 K := ⟨_, fun _ _ h => h, y (o6, m6) H (fun s' H' => f s' H' ∧ d s' < d (o6, m6)) z (fun _ _ a b => ⟨a, b⟩)⟩
 unfold b3m
 unfold q6 at h
 refine c5 (D1 _ _ _ _ _ _) ?_
 refine d7 h (fun _ h => ?_) (fun _ h => ?_)
 ·obtain ⟨aa, ab, k, i, h⟩ := h
  obtain ⟨ao, ap, ac, i⟩ := i
  refine c5 (a2M ac _ _ _ _ aa ab) ?_
  refine d3 (ldA (vs := (j7 k)) Tryd.isAgg39 Tryd.sizeOf39 rfl (I.atH i)) ?_
  refine q9 I Tryd.zeroValue39 (cs := [(vi 0), (Value.string ⟨#[]⟩), (Value.slice none 0 0), (Value.slice none 0 0), (Value.slice none 0 0), (Value.slice none 0 0)]) rfl fun aq ar ad au => ?_
  refine s9 ad Tryd.sizeOf39 (vs := (j7 k)) fun av m aw => ?_
  refine d3 (lW Tryd.isAgg39 Tryd.sizeOf39 rfl m) ?_
  refine d9 Tryd.call59 h m ?_
  rintro _ ae _ ax af _ _ ⟨o, rfl, rfl, h⟩
  refine a0p (e := 126) (c := l7) (xs := [o]) af (a5H _) rfl rfl E1 G6 (nb rfl) fun ay az ba ag p bb => ?_
  obtain ⟨ah, h⟩ := h
  refine a5d (s := O6) (xs := o6) (p.bring 2) a0z (ag.srcO ((p.bring 2).bring 1)) ah fun ai aj bc ak al bd => ?_
  refine c5 (s8 _ _ _ _ _ _) ?_
  exact hn2 _ _ _ (hm2 _ _ h).2 ⟨((o6 ++ [o]), (IntKind.wrap .i64 (m6 + 1))), ae, ai, aj, rfl, rfl, ak, ((al.bring 1).drop.bring 1).drop, (hm2 _ _ h).1⟩
 ·exact hx1 _ _ (hj1 o6 O6 Fs5l2 H _ a0z I h)
def a0W (x0 : Int) (H : Hp) (K : Bool → Hp → Prop) : Prop :=
 X1 x0 H (fun a b =>
 K ((decide (a = 3)) || (decide (a = 4))) b)
theorem a6r (x0 : Int) {H : Hp} {K : Bool → Hp → Prop} (h : a0W x0 H K) : a0Q x0 H K := by
 refine Ct.of fun w0 w ps0 H0 R E I hR => b7o ?_
 unfold a0W at h
 unfold F69
 refine d9 Tryd.call70 h I ?_
 rintro _ c _ e d _ _ ⟨b, rfl, rfl, h⟩
 refine c5 (f8 _ _ _ _ _ _) ?_
 simp only [Y3]
 refine c5 (Pu.g fun hb => by have a := hb; simp only [r7 a]; with_reducible exact (f8 _ _ _ _ _ _)) ?_
 refine c5 (a1V _ _) ?_
 exact hR _ c _ _ d ⟨((decide (b = 3)) || (decide (b = 4))), rfl, rfl, h⟩
def a0F (H : Hp) (K : Bool → Hp → Prop) : Prop :=
 K true H
def V1 (b : ByteArray) (a : Nat) (H : Hp) (n2 : Nat → Hp → Prop) (K : Bool → Hp → Prop) : Prop :=
 (a < b.size →
 a0Q ((Utf8.decode b a).1 : Int) H (fun c d =>
 TG ((!(!c) && (decide (((a : Nat) : Int) = 0))) = true) (X1 ((Utf8.decode b a).1 : Int) d) 0 d (fun (e : Int) (f : Hp) =>
 (((!c) || ((decide (((a : Nat) : Int) = 0)) && (!decide (e = 3)))) = true →
 K false f) ∧
 (((!c) || ((decide (((a : Nat) : Int) = 0)) && (!decide (e = 3)))) = false →
 n2 (a + (Utf8.decode b a).2) f)))) ∧
 (¬ (a < b.size) →
 a0F H K)
def a1O (x0 : ByteArray) (H : Hp) (K : Bool → Hp → Prop) : Prop :=
 TG ((decide (x0 = ⟨#[]⟩)) = false) (a0N x0 H) false H (fun (a : Bool) (c : Hp) =>
 TG (((decide (x0 = ⟨#[]⟩)) || (!a)) = false) (a1H x0 c) false c (fun (b : Bool) (d : Hp) =>
 TG ((((decide (x0 = ⟨#[]⟩)) || (!a)) || b) = false) (a1I x0 d) false d (fun (e : Bool) (f : Hp) =>
 (((((decide (x0 = ⟨#[]⟩)) || (!a)) || b) || e) = true →
 K false f) ∧
 (((((decide (x0 = ⟨#[]⟩)) || (!a)) || b) || e) = false →
 TL (0 : Nat) f fun (s : Nat) H n2 => V1 x0 s H n2 K))))
theorem a7q (x0 : ByteArray) {H : Hp} {K : Bool → Hp → Prop} (h : a1O x0 H K) : Z8 x0 H K := by
 refine Ct.of fun w0 w ps0 H0 R E I hR => b7k ?_
 unfold a1O at h
 unfold F64
 refine c5 (U0 _ _ _ _ _) ?_
 simp only [Y3]
 refine a6x [] (fun d : Bool => (Value.bool d)) h I (fun r h => ?_) fun d s ai f t u h => ?_
 ·have a := r
  simp only [r7 a]
  refine d9 Tryd.call66 h I ?_
  rintro _ s _ ai f u t ⟨d, rfl, rfl, h⟩
  exact ⟨d, s, rfl, f, t, u, h⟩
 refine c5 (Pu.g fun hb => by have a := hb; simp only [r7 a]; with_reducible exact (W0 _)) ?_
 refine c5 (a1V _ _) ?_
 simp only [Y3]
 refine a6x [] (fun i : Bool => (Value.bool i)) h f (fun v h => ?_) fun i y aj j z aa h => ?_
 ·have a := v
  simp only [r7 a]
  refine d9 Tryd.call67 h f ?_
  rintro _ y _ aj j aa z ⟨i, rfl, rfl, h⟩
  exact ⟨i, y, rfl, j, z, aa, h⟩
 refine c5 (a1V _ _) ?_
 simp only [Y3]
 refine a6x [] (fun k : Bool => (Value.bool k)) h j (fun ab h => ?_) fun k o ak l ac ad h => ?_
 ·have a := ab
  simp only [r7 a]
  refine d9 Tryd.call68 h j ?_
  rintro _ o _ ak l ad ac ⟨k, rfl, rfl, h⟩
  exact ⟨k, o, rfl, l, ac, ad, h⟩
 refine c5 (a1V _ _) ?_
 refine s7 h (fun _ h => ?_) (fun _ h => ?_)
 ·exact hR _ o _ _ l ⟨false, rfl, rfl, h⟩
 ·have hj1 : ∀ (H : Hp) (w : World) (_ : Inv w0 ps0 H0 H [] w) (_ : a0F H K), b0m w R E := by
   intro H w I h
   unfold b0m
   intro _
   unfold a0F at h
   exact hR _ H _ _ I ⟨true, rfl, rfl, h⟩
  refine r5 fun j1 hx1 => ?_
  refine b1p Tryd.underlying9 x0 l fun al aq am ar => ?_
  refine a1X (σ := Nat) (fun c => []) (fun c => [itf al x0 c]) h rfl am ?_
  rintro c H au w next2 n2 an I h hn2
  clear an
  unfold b3p
  unfold V1 at h
  refine b2I I (fun p av ao aw => ?_) (fun p => ?_)
  ·replace h := h.1 p
   refine c5 (g9 _ _ (Value.bool true) rfl) ?_
   refine a0i (fun e => ?_) (fun e => by cases e)
   refine c5 (g9 _ _ (vi ((c : Nat) : Int)) rfl) ?_
   refine c5 (g9 _ _ (Value.int .i32 ((Utf8.decode x0 c).1 : Int)) rfl) ?_
   refine d9 Tryd.call69 h ao ?_
   rintro _ _ _ ax ae _ _ ⟨ay, rfl, rfl, h⟩
   refine c5 (W0 _) ?_
   simp only [Y3]
   refine c5 (Pu.g fun hb => by have a := hb; simp only [r7 a]; with_reducible exact (f8 _ _ _ _ _ _)) ?_
   simp only [b4J, b6j]
   refine b8e (a4b _ _ _) ?_
   refine a6x [] (fun m : Int => (vi m)) h ae (fun af h => ?_) fun m q ap n ag ah h => ?_
   ·obtain ⟨a, b⟩ := a6R af
    simp only [r7 af]
    refine d9 Tryd.call70 h ae ?_
    rintro _ q _ ap n ah ag ⟨m, rfl, rfl, h⟩
    exact ⟨m, q, rfl, n, ag, ah, h⟩
   refine c5 (Pu.e (a4b _ _ _) (Pu.g fun hb => by obtain ⟨a, b⟩ := a6R hb; simp only [r7 hb]; with_reducible exact (a0Z _ _ _ _ _ _))) ?_
   refine c5 (Pu.g fun hb => by have a := hb; simp only [r7 a, b2F a]; with_reducible exact (L2 _ _)) ?_
   refine c5 (a1V _ _) ?_
   refine s7 h (fun _ h => ?_) (fun _ h => ?_)
   ·exact hR _ q _ _ n.drop ⟨false, rfl, rfl, h⟩
   ·exact hn2 (c + (Utf8.decode x0 c).2) _ _ h n
  ·replace h := h.2 p
   refine c5 (g9 _ _ (Value.bool false) rfl) ?_
   refine a0i (fun e => by cases e) (fun e => ?_)
   exact hx1 _ _ (hj1 H _ I.drop h)
def N4 (x0 : (List ByteArray)) (x1 : ByteArray) (H : Hp) (K : Bool → Hp → Prop) : Prop :=
 P5 x0 x1 H (fun a b =>
 K (decide (0 ≤ a)) b)
theorem a2m (x0 : (List ByteArray)) (x1 : ByteArray) {H : Hp} {K : Bool → Hp → Prop} (h : N4 x0 x1 H K) : G3 x0 x1 H K := by
 intro sx0 Fx0 hx0
 refine Ct.of fun w0 w ps0 H0 R E I hR => b7l ?_
 unfold N4 at h
 unfold F65
 refine d9 Tryd.call71 (h sx0 Fx0 hx0) I ?_
 rintro _ a _ d b _ _ ⟨c, rfl, rfl, h⟩
 refine c5 (a6v _ _ _ _ _ _) ?_
 exact hR _ a _ _ b ⟨(decide (0 ≤ c)), rfl, rfl, h⟩
def K8 (b5d : Sl) (a8b : Int) (d : i5) (K5 : Int) (B4 : (List d4)) (H : Hp) (n2 : (Int × (List d4)) → Hp → Prop) (K : f0 → (List d4) → Hp → Prop) : Prop :=
 (K5 < a8b →
 (0 : Int) ≤ K5 ∧ (K5 : Int) < b5d.n ∧ ∃ a : i5, EltH H b5d K5 4 (f6 a) ∧
 G7 (f0.mk (Sl.mk none 0 0)) B4 a H (fun e b c =>
 n2 ((IntKind.wrap .i64 (K5 + 1)), b) c)) ∧
 (¬ (K5 < a8b) →
 K (f0.mk (Sl.mk none 0 0)) B4 H)
def A0 (Q2 : (List d4)) (a : i5) (H : Hp) (K : f0 → (List d4) → Hp → Prop) : Prop :=
 TL ((0, Q2) : Int × (List d4)) H fun (s : Int × (List d4)) H n2 => K8 a.u7 (a.u7.n : Int) a s.1 s.2 H n2 K
def V2 (x0 : f0) (a : (List d4)) (x1 : i5) (H : Hp) (K : f0 → (List d4) → Hp → Prop) : Prop :=
 (x1.d5 = 2 →
 (a.length + ([(d4.mk x1.d8 1)] : List d4).length) * 25 ≤ 140737488355328 ∧
 A0 (a ++ [(d4.mk x1.d8 1)]) x1 H K) ∧
 (¬ (x1.d5 = 2) →
 (x1.d5 = 4 →
 (a.length + ([(d4.mk x1.d8 2)] : List d4).length) * 25 ≤ 140737488355328 ∧
 A0 (a ++ [(d4.mk x1.d8 2)]) x1 H K) ∧
 (¬ (x1.d5 = 4) →
 A0 a x1 H K))
theorem a3X (x0 : f0) (d : (List d4)) (x1 : i5) {H : Hp} {K : f0 → (List d4) → Hp → Prop} (h : V2 x0 d x1 H K) : G7 x0 d x1 H K := by
 intro g0 k ab m
 refine Ct.of fun w0 w ps0 H0 R E I hR => b6X ?_
 unfold V2 at h
 unfold F51
 refine C1 I (cs := (f6 x1)) rfl fun o bf g bg => ?_
 have hj1 : ∀ (Q2 : (List d4)) (a0G : Sl) (a0H : Frag) (H : Hp) (w : World) (_ : RowL 106 2 o4 a0G Q2 a0H) (_ : Inv w0 ps0 H0 H [bx g0 103 [(vs a0G)], bx o 25 (f6 x1), a0H] w) (_ : A0 Q2 x1 H K), b0c (Value.pointer (some ⟨g0, 0, none⟩)) (Value.pointer (some ⟨o, 0, none⟩)) w R E := by
  intro Q2 a0G a0H H w a7H I h
  unfold b0c
  intro _
  unfold A0 at h
  refine c5 Z0 ?_
  refine d3 (l1 Tryd.isAgg23 (I.bring 1) rfl) ?_
  refine c5 (a0o _ _ _) ?_
  obtain ⟨p, f, ac, ad⟩ := h
  refine G5 (J := fun n l w => ∃ (s : Int × (List d4)) (H : Hp) (W6 : Sl) (W7 : Frag) , n = f s ∧ l = (match s with | (K5, B4) => [(vi K5)]) ∧ (match s with | (K5, B4) => RowL 106 2 o4 W6 B4 W7) ∧ (match s with | (K5, B4) => Inv w0 ps0 H0 H [bx g0 103 [(vs W6)], bx o 25 (f6 x1), W7] w) ∧ p s H) ⟨_, (0, Q2), H, a0G, a0H, rfl, rfl, a7H, (((I.bring 2).bring 2).bring 2), ac⟩ ?_
  rintro bh bi w next2 ⟨⟨K5, B4⟩, H, W6, W7, rfl, q, a2g, I, ae⟩ hn2
  dsimp only at q I a2g
  simp only [List.map_cons, List.map_nil, List.cons.injEq, and_true] at q
  have e39 := q
  simp only [e39]
  obtain ⟨n2, hm2, h⟩ : ∃ n2 : (Int × (List d4)) → Hp → Prop, (∀ s' H', n2 s' H' → p s' H' ∧ f s' < f (K5, B4)) ∧ K8 x1.u7 (x1.u7.n : Int) x1 K5 B4 H n2 K := ⟨_, fun _ _ h => h, ad (K5, B4) H (fun s' H' => p s' H' ∧ f s' < f (K5, B4)) ae (fun _ _ a b => ⟨a, b⟩)⟩
  unfold b3i
  unfold K8 at h
  refine c5 (D1 _ _ _ _ _ _) ?_
  refine d7 h (fun _ h => ?_) (fun _ h => ?_)
  ·obtain ⟨af, ag, t, r, h⟩ := h
   obtain ⟨bj, bk, ah, r⟩ := r
   refine c5 (Z4 ah _ _ _ _ af ag) ?_
   refine d3 (ldA (vs := (f6 t)) Tryd.isAgg25 Tryd.sizeOf25 rfl (I.atH r)) ?_
   refine q9 I Tryd.zeroValue25 (cs := [(vi 0), (vi 0), (Value.string ⟨#[]⟩), (Value.slice none 0 0)]) rfl fun bl bm ai bn => ?_
   refine s9 ai Tryd.sizeOf25 (vs := (f6 t)) fun bo u bp => ?_
   refine d3 (lW Tryd.isAgg25 Tryd.sizeOf25 rfl u) ?_
   refine d9 Tryd.call51 (h g0 W6 W7 a2g) ((u.bring 3).bring 2) ?_
   rintro _ aj _ bq ak _ _ ⟨br, al, am, an, rfl, rfl, ao, h⟩
   refine c5 (s8 _ _ _ _ _ _) ?_
   exact hn2 _ _ _ (hm2 _ _ h).2 ⟨((IntKind.wrap .i64 (K5 + 1)), al), aj, am, an, rfl, rfl, ao, ((((ak.bring 2).drop.bring 1).bring 2).bring 2), (hm2 _ _ h).1⟩
  ·exact hR _ H _ _ (((I.bring 1).drop.bring 1).bring 1) ⟨(f0.mk (Sl.mk none 0 0)), B4, W6, W7, rfl, rfl, a2g, h⟩
 refine r5 fun j1 hx1 => ?_
 refine c5 O0 ?_
 refine d3 (l1 Tryd.isAgg3 g rfl) ?_
 refine c5 (f8 _ _ _ _ _ _) ?_
 refine d7 h (fun _ h => ?_) (fun _ h => ?_)
 ·refine N7 g fun bs i => ?_
  refine f7 (m5 _) ?_
  refine f7 Q6 ?_
  refine f7 a1u ?_
  refine o8 (l1 Tryd.isAgg101 (i.bring 1) rfl) ?_
  refine o8 (l1 Tryd.isAgg9 i rfl) ?_
  refine f7 (a1v _ _) ?_
  refine a0p (e := 106) (c := o4) (xs := [(d4.mk x1.d8 1)]) i (a5G _ _) rfl rfl a0L a0M (nb rfl) fun bt bu bv ap v aq => ?_
  refine ⟨(aq _ (i.bring 1).lt1), ?_⟩
  obtain ⟨ar, h⟩ := h
  refine a6W (s := k) (xs := d) (v.bring 3) m (ap.srcO ((v.bring 3).bring 1)) ar fun y au bw av aw bz => ?_
  refine f7 (m5 _) ?_
  refine f7 Q6 ?_
  refine s9 ((aw.bring 1).drop.bring 2) Tryd.sizeOf101 (vs := [(vs y)]) fun ca ax cb => ?_
  exact hx1 _ _ (hj1 (d ++ [(d4.mk x1.d8 1)]) y au H _ av (((ax.bring 1).bring 2).bring 2) h)
 ·refine c5 (f8 _ _ _ _ _ _) ?_
  refine d7 h (fun _ h => ?_) (fun _ h => ?_)
  ·refine N7 g fun cc j => ?_
   refine f7 (m5 _) ?_
   refine f7 Q6 ?_
   refine f7 a1u ?_
   refine o8 (l1 Tryd.isAgg101 (j.bring 1) rfl) ?_
   refine o8 (l1 Tryd.isAgg9 j rfl) ?_
   refine f7 (a1v _ _) ?_
   refine a0p (e := 106) (c := o4) (xs := [(d4.mk x1.d8 2)]) j (a5G _ _) rfl rfl a0L a0M (nb rfl) fun cd ce cf ay z az => ?_
   refine ⟨(az _ (j.bring 1).lt1), ?_⟩
   obtain ⟨ba, h⟩ := h
   refine a6W (s := k) (xs := d) (z.bring 3) m (ay.srcO ((z.bring 3).bring 1)) ba fun aa bb cg bc bd ch => ?_
   refine f7 (m5 _) ?_
   refine f7 Q6 ?_
   refine s9 ((bd.bring 1).drop.bring 2) Tryd.sizeOf101 (vs := [(vs aa)]) fun ci be cj => ?_
   exact hx1 _ _ (hj1 (d ++ [(d4.mk x1.d8 2)]) aa bb H _ bc (((be.bring 1).bring 2).bring 2) h)
  ·exact hx1 _ _ (hj1 d k ab H _ m (((g.bring 2).bring 1).bring 2) h)
def K9 (b5e : Sl) (b5f : Int) (d : m2) (a0g : Int) (B4 : (List d4)) (H : Hp) (n2 : (Int × (List d4)) → Hp → Prop) (K : f0 → (List d4) → Hp → Prop) : Prop :=
 (a0g < b5f →
 (0 : Int) ≤ a0g ∧ (a0g : Int) < b5e.n ∧ ∃ a : m2, EltH H b5e a0g 4 (f9 a) ∧
 N0 (f0.mk (Sl.mk none 0 0)) B4 a H (fun e b c =>
 n2 ((IntKind.wrap .i64 (a0g + 1)), b) c)) ∧
 (¬ (a0g < b5f) →
 K (f0.mk (Sl.mk none 0 0)) B4 H)
def L0 (a : m2) (Q2 : (List d4)) (H : Hp) (K : f0 → (List d4) → Hp → Prop) : Prop :=
 TL ((0, Q2) : Int × (List d4)) H fun (s : Int × (List d4)) H n2 => K9 a.o7 (a.o7.n : Int) a s.1 s.2 H n2 K
def L1 (b7J : Sl) (b5g : Int) (b : m2) (a0h : Int) (T9 : (List d4)) (H : Hp) (n3 : (Int × (List d4)) → Hp → Prop) (K : f0 → (List d4) → Hp → Prop) : Prop :=
 (a0h < b5g →
 (0 : Int) ≤ a0h ∧ (a0h : Int) < b7J.n ∧ ∃ a : i5, EltH H b7J a0h 4 (f6 a) ∧
 G7 (f0.mk (Sl.mk none 0 0)) T9 a H (fun e c d =>
 n3 ((IntKind.wrap .i64 (a0h + 1)), c) d)) ∧
 (¬ (a0h < b5g) →
 L0 b T9 H K)
def V3 (x0 : f0) (a : (List d4)) (x1 : m2) (H : Hp) (K : f0 → (List d4) → Hp → Prop) : Prop :=
 TL ((0, a) : Int × (List d4)) H fun (s : Int × (List d4)) H n3 => L1 x1.g5 (x1.g5.n : Int) x1 s.1 s.2 H n3 K
theorem a3Y (x0 : f0) (f : (List d4)) (x1 : m2) {H : Hp} {K : f0 → (List d4) → Hp → Prop} (h : V3 x0 f x1 H K) : N0 x0 f x1 H K := by
 intro g0 v y z
 refine Ct.of fun w0 w ps0 H0 R E I hR => b6W ?_
 unfold V3 at h
 unfold F50
 refine C1 I (cs := (f9 x1)) rfl fun e bc p bd => ?_
 have hj1 : ∀ (Q2 : (List d4)) (a0G : Sl) (a0H : Frag) (H : Hp) (w : World) (_ : RowL 106 2 o4 a0G Q2 a0H) (_ : Inv w0 ps0 H0 H [bx e 89 (f9 x1), bx g0 103 [(vs a0G)], a0H] w) (_ : L0 x1 Q2 H K), b0b (Value.pointer (some ⟨g0, 0, none⟩)) (Value.pointer (some ⟨e, 0, none⟩)) w R E := by
  intro Q2 a0G a0H H w a7H I h
  unfold b0b
  intro _
  unfold L0 at h
  refine c5 Z1 ?_
  refine d3 (l1 Tryd.isAgg36 I rfl) ?_
  refine c5 (a3j _ _ _) ?_
  obtain ⟨g, c, aa, ab⟩ := h
  refine G5 (J := fun n l w => ∃ (s : Int × (List d4)) (H : Hp) (W6 : Sl) (W7 : Frag) , n = c s ∧ l = (match s with | (a0g, B4) => [(vi a0g)]) ∧ (match s with | (a0g, B4) => RowL 106 2 o4 W6 B4 W7) ∧ (match s with | (a0g, B4) => Inv w0 ps0 H0 H [bx e 89 (f9 x1), bx g0 103 [(vs W6)], W7] w) ∧ g s H) ⟨_, (0, Q2), H, a0G, a0H, rfl, rfl, a7H, (((I.bring 2).bring 2).bring 2), aa⟩ ?_
  rintro be bf w next2 ⟨⟨a0g, B4⟩, H, W6, W7, rfl, i, a2g, I, ac⟩ hn2
  dsimp only at i I a2g
  simp only [List.map_cons, List.map_nil, List.cons.injEq, and_true] at i
  have e22 := i
  simp only [e22]
  obtain ⟨n2, hm2, h⟩ : ∃ n2 : (Int × (List d4)) → Hp → Prop, (∀ s' H', n2 s' H' → g s' H' ∧ c s' < c (a0g, B4)) ∧ K9 x1.o7 (x1.o7.n : Int) x1 a0g B4 H n2 K := ⟨_, fun _ _ h => h, ab (a0g, B4) H (fun s' H' => g s' H' ∧ c s' < c (a0g, B4)) ac (fun _ _ a b => ⟨a, b⟩)⟩
  unfold b3g
  unfold K9 at h
  refine c5 (D1 _ _ _ _ _ _) ?_
  refine d7 h (fun _ h => ?_) (fun _ h => ?_)
  ·obtain ⟨ad, ae, q, j, h⟩ := h
   obtain ⟨bg, bh, af, j⟩ := j
   refine c5 (S5 af _ _ _ _ ad ae) ?_
   refine d3 (ldA (vs := (f9 q)) Tryd.isAgg89 Tryd.sizeOf89 rfl (I.atH j)) ?_
   refine q9 I Tryd.zeroValue89 (cs := [(vi 0), (vi 0), (Value.slice none 0 0), (Value.slice none 0 0)]) rfl fun bi bj ag bk => ?_
   refine s9 ag Tryd.sizeOf89 (vs := (f9 q)) fun bl r bm => ?_
   refine d3 (lW Tryd.isAgg89 Tryd.sizeOf89 rfl r) ?_
   refine d9 Tryd.call50 (h g0 W6 W7 a2g) ((r.bring 3).bring 3) ?_
   rintro _ ah _ bn ai _ _ ⟨bo, aj, ak, al, rfl, rfl, am, h⟩
   refine c5 (s8 _ _ _ _ _ _) ?_
   exact hn2 _ _ _ (hm2 _ _ h).2 ⟨((IntKind.wrap .i64 (a0g + 1)), aj), ah, ak, al, rfl, rfl, am, ((((ai.bring 2).drop.bring 1).bring 1).bring 2), (hm2 _ _ h).1⟩
  ·exact hR _ H _ _ ((I.drop.bring 1).bring 1) ⟨(f0.mk (Sl.mk none 0 0)), B4, W6, W7, rfl, rfl, a2g, h⟩
 refine r5 fun j1 hx1 => ?_
 refine c5 a3O ?_
 refine d3 (l1 Tryd.isAgg23 p rfl) ?_
 refine c5 (a0o _ _ _) ?_
 obtain ⟨k, d, an, ao⟩ := h
 refine G5 (J := fun n l w => ∃ (s : Int × (List d4)) (H : Hp) (a4x : Sl) (a4y : Frag) , n = d s ∧ l = (match s with | (a0h, T9) => [(vi a0h)]) ∧ (match s with | (a0h, T9) => RowL 106 2 o4 a4x T9 a4y) ∧ (match s with | (a0h, T9) => Inv w0 ps0 H0 H [bx e 89 (f9 x1), bx g0 103 [(vs a4x)], a4y] w) ∧ k s H) ⟨_, (0, f), H, v, y, rfl, rfl, z, (((p.bring 2).bring 2).bring 2), an⟩ ?_
 rintro bp bq w next3 ⟨⟨a0h, T9⟩, H, a4x, a4y, rfl, m, a7I, I, ap⟩ hn3
 dsimp only at m I a7I
 simp only [List.map_cons, List.map_nil, List.cons.injEq, and_true] at m
 have e11 := m
 simp only [e11]
 obtain ⟨n3, hm3, h⟩ : ∃ n3 : (Int × (List d4)) → Hp → Prop, (∀ s' H', n3 s' H' → k s' H' ∧ d s' < d (a0h, T9)) ∧ L1 x1.g5 (x1.g5.n : Int) x1 a0h T9 H n3 K := ⟨_, fun _ _ h => h, ao (a0h, T9) H (fun s' H' => k s' H' ∧ d s' < d (a0h, T9)) ap (fun _ _ a b => ⟨a, b⟩)⟩
 unfold b3h
 unfold L1 at h
 refine c5 (D1 _ _ _ _ _ _) ?_
 refine d7 h (fun _ h => ?_) (fun _ h => ?_)
 ·obtain ⟨aq, ar, t, o, h⟩ := h
  obtain ⟨br, bs, au, o⟩ := o
  refine c5 (Z4 au _ _ _ _ aq ar) ?_
  refine d3 (ldA (vs := (f6 t)) Tryd.isAgg25 Tryd.sizeOf25 rfl (I.atH o)) ?_
  refine q9 I Tryd.zeroValue25 (cs := [(vi 0), (vi 0), (Value.string ⟨#[]⟩), (Value.slice none 0 0)]) rfl fun bt bu av bv => ?_
  refine s9 av Tryd.sizeOf25 (vs := (f6 t)) fun bw u bz => ?_
  refine d3 (lW Tryd.isAgg25 Tryd.sizeOf25 rfl u) ?_
  refine d9 Tryd.call51 (h g0 a4x a4y a7I) ((u.bring 3).bring 3) ?_
  rintro _ aw _ ca ax _ _ ⟨cb, ay, az, ba, rfl, rfl, bb, h⟩
  refine c5 (s8 _ _ _ _ _ _) ?_
  exact hn3 _ _ _ (hm3 _ _ h).2 ⟨((IntKind.wrap .i64 (a0h + 1)), ay), aw, az, ba, rfl, rfl, bb, ((((ax.bring 2).drop.bring 1).bring 1).bring 2), (hm3 _ _ h).1⟩
 ·exact hx1 _ _ (hj1 T9 a4x a4y H _ a7I (((I.bring 2).bring 2).bring 2) h)
def q7 (O5 : (List c7)) (H : Hp) (K : Sl → Hp → Prop) : Prop :=
 ∀ (A6 : Sl) (a : Hp), Hle H a → SlH a 1 l7 A6 O5 → A6.n ≤ A6.c →
 K A6 a
def q8 (U8 : Sl) (W2 : Int) (o6 : (List c7)) (m6 : Int) (H : Hp) (n2 : ((List c7) × Int) → Hp → Prop) (K : Sl → Hp → Prop) : Prop :=
 (m6 < W2 →
 (0 : Int) ≤ m6 ∧ (m6 : Int) < U8.n ∧ ∃ a : i5, EltH H U8 m6 4 (f6 a) ∧
 a2B a H (fun b c =>
 (o6.length + ([b] : List c7).length) * 17 ≤ 140737488355328 ∧
 n2 ((o6 ++ [b]), (IntKind.wrap .i64 (m6 + 1))) c)) ∧
 (¬ (m6 < W2) →
 q7 o6 H K)
def A4 (x0 : Sl) (H : Hp) (K : Sl → Hp → Prop) : Prop :=
 TL (([], 0) : (List c7) × Int) H fun (s : (List c7) × Int) H n2 => q8 x0 (x0.n : Int) s.1 s.2 H n2 K
theorem Q3 (x0 : Sl) {H : Hp} {K : Sl → Hp → Prop} (h : A4 x0 H K) : m9 x0 H K := by
 refine Ct.of fun w0 w ps0 H0 R E I hR => b7z ?_
 unfold A4 at h
 unfold F97
 have hj1 : ∀ (O5 : (List c7)) (A6 : Sl) (Fs5j1 : Frag) (H : Hp) (w : World) (_ : RowL 126 1 l7 A6 O5 Fs5j1) (_ : Inv w0 ps0 H0 H [Fs5j1] w) (_ : q7 O5 H K), b0w (vs A6) w R E := by
  intro O5 A6 Fs5j1 H w a5N I h
  unfold b0w
  intro _
  unfold q7 at h
  obtain ⟨j, q, r, t, u⟩ := Inv.freezeC I a5N (by decide)
  replace h := h A6 j r t u
  exact hR _ j _ _ q ⟨A6, rfl, rfl, h⟩
 refine r5 fun j1 hx1 => ?_
 refine c5 (a0o _ _ _) ?_
 obtain ⟨f, d, v, y⟩ := h
 refine G5 (J := fun n l w => ∃ (s : (List c7) × Int) (H : Hp) (O6 : Sl) (Fs5l2 : Frag) , n = d s ∧ l = (match s with | (o6, m6) => [(vs O6), (vi m6)]) ∧ (match s with | (o6, m6) => RowL 126 1 l7 O6 o6 Fs5l2) ∧ (match s with | (o6, m6) => Inv w0 ps0 H0 H [Fs5l2] w) ∧ f s H) ⟨_, ([], 0), H, (Sl.mk none 0 0), [], rfl, rfl, (RowL.nil E1 G6), I.nil, v⟩ ?_
 rintro am an w next2 ⟨⟨o6, m6⟩, H, O6, Fs5l2, rfl, g, a0z, I, z⟩ hn2
 dsimp only at g I a0z
 simp only [List.map_cons, List.map_nil, List.cons.injEq, and_true] at g
 obtain ⟨e5, e10⟩ := g
 simp only [e5, e10]
 obtain ⟨n2, hm2, h⟩ : ∃ n2 : ((List c7) × Int) → Hp → Prop, (∀ s' H', n2 s' H' → f s' H' ∧ d s' < d (o6, m6)) ∧ q8 x0 (x0.n : Int) o6 m6 H n2 K := ⟨_, fun _ _ h => h, y (o6, m6) H (fun s' H' => f s' H' ∧ d s' < d (o6, m6)) z (fun _ _ a b => ⟨a, b⟩)⟩
 unfold b3t
 unfold q8 at h
 refine c5 (D1 _ _ _ _ _ _) ?_
 refine d7 h (fun _ h => ?_) (fun _ h => ?_)
 ·obtain ⟨aa, ab, k, i, h⟩ := h
  obtain ⟨ao, ap, ac, i⟩ := i
  refine c5 (Z4 ac _ _ _ _ aa ab) ?_
  refine d3 (ldA (vs := (f6 k)) Tryd.isAgg25 Tryd.sizeOf25 rfl (I.atH i)) ?_
  refine q9 I Tryd.zeroValue25 (cs := [(vi 0), (vi 0), (Value.string ⟨#[]⟩), (Value.slice none 0 0)]) rfl fun aq ar ad au => ?_
  refine s9 ad Tryd.sizeOf25 (vs := (f6 k)) fun av m aw => ?_
  refine d3 (lW Tryd.isAgg25 Tryd.sizeOf25 rfl m) ?_
  refine d9 Tryd.call98 h m ?_
  rintro _ ae _ ax af _ _ ⟨o, rfl, rfl, h⟩
  refine a0p (e := 126) (c := l7) (xs := [o]) af (a5H _) rfl rfl E1 G6 (nb rfl) fun ay az ba ag p bb => ?_
  obtain ⟨ah, h⟩ := h
  refine a5d (s := O6) (xs := o6) (p.bring 2) a0z (ag.srcO ((p.bring 2).bring 1)) ah fun ai aj bc ak al bd => ?_
  refine c5 (s8 _ _ _ _ _ _) ?_
  exact hn2 _ _ _ (hm2 _ _ h).2 ⟨((o6 ++ [o]), (IntKind.wrap .i64 (m6 + 1))), ae, ai, aj, rfl, rfl, ak, ((al.bring 1).drop.bring 1).drop, (hm2 _ _ h).1⟩
 ·exact hx1 _ _ (hj1 o6 O6 Fs5l2 H _ a0z I h)
def u6 (a6E : Int) (a7a : Bool) (a : B7) (H : Hp) (K : Bool → Hp → Prop) : Prop :=
 (a7a = true →
 K (decide (a6E = 2)) H) ∧
 (a7a = false →
 K false H)
def C6 (a8G : Int) (a1y : Int) (a7b : Bool) (a : B7) (H : Hp) (K : Bool → Hp → Prop) : Prop :=
 (a7b = true →
 K (decide (a8G = 1)) H) ∧
 (a7b = false →
 (a1y = 6 →
 u6 a8G (decide (a1y = 6)) a H K) ∧
 (¬ (a1y = 6) →
 (a1y = 7 →
 u6 a8G (decide (a1y = 7)) a H K) ∧
 (¬ (a1y = 7) →
 (a1y = 8 →
 u6 a8G (decide (a1y = 8)) a H K) ∧
 (¬ (a1y = 8) →
 (a1y = 9 →
 u6 a8G (decide (a1y = 9)) a H K) ∧
 (¬ (a1y = 9) →
 u6 a8G (decide (a1y = 10)) a H K)))))
def C7 (a0x : Int) (a1z : Int) (a7c : Bool) (a : B7) (H : Hp) (K : Bool → Hp → Prop) : Prop :=
 (a7c = true →
 K (decide (a0x = 0)) H) ∧
 (a7c = false →
 (a1z = 4 →
 C6 a0x a1z (decide (a1z = 4)) a H K) ∧
 (¬ (a1z = 4) →
 C6 a0x a1z (decide (a1z = 5)) a H K))
def X8 (x0 : B7) (H : Hp) (K : Bool → Hp → Prop) : Prop :=
 R3 (c7.v1 x0) H (fun c b a =>
 ((((!decide (x0.l9.d5 = 1)) && (!decide (x0.l9.y8 = 0))) || ((!b) && (!decide (x0.l9.d8 = ⟨#[]⟩)))) = true →
 K false a) ∧
 ((((!decide (x0.l9.d5 = 1)) && (!decide (x0.l9.y8 = 0))) || ((!b) && (!decide (x0.l9.d8 = ⟨#[]⟩)))) = false →
 (x0.l9.d5 = 1 →
 K ((decide (0 ≤ x0.l9.y8)) && (decide ((x0.l9.u7.n : Int) = 0))) a) ∧
 (¬ (x0.l9.d5 = 1) →
 (x0.l9.d5 = 2 →
 C7 (x0.l9.u7.n : Int) x0.l9.d5 (decide (x0.l9.d5 = 2)) x0 a K) ∧
 (¬ (x0.l9.d5 = 2) →
 C7 (x0.l9.u7.n : Int) x0.l9.d5 (decide (x0.l9.d5 = 3)) x0 a K))))
theorem a4E (x0 : B7) {H : Hp} {K : Bool → Hp → Prop} (h : X8 x0 H K) : X4 x0 H K := by
 refine Ct.of fun w0 w ps0 H0 R E I hR => b7B ?_
 unfold X8 at h
 unfold F99
 refine C1 I (cs := (f6 x0.l9)) rfl fun f l i m => ?_
 refine c5 N5 ?_
 refine c5 Z0 ?_
 refine d3 (l1 Tryd.isAgg23 i rfl) ?_
 refine c5 (a0o _ _ _) ?_
 refine d3 (lW Tryd.isAgg146 Tryd.sizeOf146 rfl i) ?_
 refine c5 (a5e x0) ?_
 refine d9 Tryd.call63 h i ?_
 rintro _ d _ o c _ _ ⟨j, k, rfl, rfl, h⟩
 refine c5 (g9 _ _ (Value.string j) rfl) ?_
 refine c5 (g9 _ _ (Value.bool k) rfl) ?_
 refine c5 N5 ?_
 refine c5 O0 ?_
 refine d3 (l1 Tryd.isAgg3 c rfl) ?_
 refine c5 (a0Z _ _ _ _ _ _) ?_
 refine c5 (Pu.g fun hb => by have a := hb; with_reducible exact N5) ?_
 refine c5 (Pu.g fun hb => by have a := hb; simp only [r7 a]; with_reducible exact a3N) ?_
 refine d3 (Ld.g fun hb => by have a := hb; simp only [r7 a]; exact (l1 Tryd.isAgg2 c rfl)) ?_
 refine c5 (Pu.g fun hb => by have a := hb; simp only [r7 a]; with_reducible exact (a0Z _ _ _ _ _ _)) ?_
 refine c5 (L2 _ _) ?_
 simp only [Y3]
 refine c5 (Pu.g fun hb => by have a := hb; simp only [r7 a]; with_reducible exact (W0 _)) ?_
 simp only [b4J]
 refine c5 (Pu.e (a4b _ _ _) (Pu.g fun hb => by obtain ⟨a, b⟩ := a6R hb; with_reducible exact N5)) ?_
 refine c5 (Pu.e (a4b _ _ _) (Pu.g fun hb => by obtain ⟨a, b⟩ := a6R hb; simp only [r7 hb]; with_reducible exact a1u)) ?_
 refine d3 (Ld.e (a4b _ _ _) (Ld.g fun hb => by obtain ⟨a, b⟩ := a6R hb; simp only [r7 hb]; exact (l1 Tryd.isAgg9 c rfl))) ?_
 refine c5 (Pu.e (a4b _ _ _) (Pu.g fun hb => by obtain ⟨a, b⟩ := a6R hb; simp only [r7 hb]; with_reducible exact (b6i _ _ _ _ _))) ?_
 refine c5 (Pu.g fun hb => by have a := hb; simp only [r7 a, b2F a]; with_reducible exact (L2 _ _)) ?_
 refine c5 (a1V _ _) ?_
 refine s7 h (fun _ h => ?_) (fun _ h => ?_)
 ·exact hR _ d _ _ c.drop ⟨false, rfl, rfl, h⟩
 ·refine c5 N5 ?_
  refine c5 O0 ?_
  refine d3 (l1 Tryd.isAgg3 c rfl) ?_
  refine c5 (f8 _ _ _ _ _ _) ?_
  refine d7 h (fun _ h => ?_) (fun _ h => ?_)
  ·refine c5 N5 ?_
   refine c5 a3N ?_
   refine d3 (l1 Tryd.isAgg2 c rfl) ?_
   refine c5 (a6v _ _ _ _ _ _) ?_
   simp only [Y3]
   refine c5 (Pu.g fun hb => by have a := hb; simp only [r7 a]; with_reducible exact (f8 _ _ _ _ _ _)) ?_
   refine c5 (L2 _ _) ?_
   exact hR _ d _ _ c.drop ⟨((decide (0 ≤ x0.l9.y8)) && (decide ((x0.l9.u7.n : Int) = 0))), rfl, rfl, h⟩
  ·have hj1 : ∀ (a7c : Bool) (H : Hp) (w : World) (_ : Inv w0 ps0 H0 H [bx f 146 (f6 x0.l9)] w) (_ : C7 (x0.l9.u7.n : Int) x0.l9.d5 a7c x0 H K), b0z (vi (x0.l9.u7.n : Int)) (vi x0.l9.d5) (Value.bool a7c) w R E := by
    intro a7c H w I h
    unfold b0z
    intro _
    unfold C7 at h
    refine s7 h (fun _ h => ?_) (fun _ h => ?_)
    ·refine c5 (f8 _ _ _ _ _ _) ?_
     exact hR _ H _ _ I.drop ⟨(decide ((x0.l9.u7.n : Int) = 0)), rfl, rfl, h⟩
    ·have hj2 : ∀ (a7b : Bool) (H : Hp) (w : World) (_ : Inv w0 ps0 H0 H [bx f 146 (f6 x0.l9)] w) (_ : C6 (x0.l9.u7.n : Int) x0.l9.d5 a7b x0 H K), b0y (vi (x0.l9.u7.n : Int)) (vi x0.l9.d5) (Value.bool a7b) w R E := by
      intro a7b H w I h
      unfold b0y
      intro _
      unfold C6 at h
      refine s7 h (fun _ h => ?_) (fun _ h => ?_)
      ·refine c5 (f8 _ _ _ _ _ _) ?_
       exact hR _ H _ _ I.drop ⟨(decide ((x0.l9.u7.n : Int) = 1)), rfl, rfl, h⟩
      ·have hj3 : ∀ (a7a : Bool) (H : Hp) (w : World) (_ : Inv w0 ps0 H0 H [bx f 146 (f6 x0.l9)] w) (_ : u6 (x0.l9.u7.n : Int) a7a x0 H K), b0x (vi (x0.l9.u7.n : Int)) (Value.bool a7a) w R E := by
        intro a7a H w I h
        unfold b0x
        intro _
        unfold u6 at h
        refine s7 h (fun _ h => ?_) (fun _ h => ?_)
        ·refine c5 (f8 _ _ _ _ _ _) ?_
         exact hR _ H _ _ I.drop ⟨(decide ((x0.l9.u7.n : Int) = 2)), rfl, rfl, h⟩
        ·exact hR _ H _ _ I.drop ⟨false, rfl, rfl, h⟩
       refine r5 fun j3 hx3 => ?_
       refine c5 (f8 _ _ _ _ _ _) ?_
       refine d7 h (fun _ h => ?_) (fun _ h => ?_)
       ·exact hx3 _ _ (hj3 (decide (x0.l9.d5 = 6)) H _ I h)
       ·refine c5 (f8 _ _ _ _ _ _) ?_
        refine d7 h (fun _ h => ?_) (fun _ h => ?_)
        ·exact hx3 _ _ (hj3 (decide (x0.l9.d5 = 7)) H _ I h)
        ·refine c5 (f8 _ _ _ _ _ _) ?_
         refine d7 h (fun _ h => ?_) (fun _ h => ?_)
         ·exact hx3 _ _ (hj3 (decide (x0.l9.d5 = 8)) H _ I h)
         ·refine c5 (f8 _ _ _ _ _ _) ?_
          refine d7 h (fun _ h => ?_) (fun _ h => ?_)
          ·exact hx3 _ _ (hj3 (decide (x0.l9.d5 = 9)) H _ I h)
          ·refine c5 (f8 _ _ _ _ _ _) ?_
           exact hx3 _ _ (hj3 (decide (x0.l9.d5 = 10)) H _ I h)
     refine r5 fun j2 hx2 => ?_
     refine c5 (f8 _ _ _ _ _ _) ?_
     refine d7 h (fun _ h => ?_) (fun _ h => ?_)
     ·exact hx2 _ _ (hj2 (decide (x0.l9.d5 = 4)) H _ I h)
     ·refine c5 (f8 _ _ _ _ _ _) ?_
      exact hx2 _ _ (hj2 (decide (x0.l9.d5 = 5)) H _ I h)
   refine r5 fun j1 hx1 => ?_
   refine c5 (f8 _ _ _ _ _ _) ?_
   refine d7 h (fun _ h => ?_) (fun _ h => ?_)
   ·exact hx1 _ _ (hj1 (decide (x0.l9.d5 = 2)) d _ c h)
   ·refine c5 (f8 _ _ _ _ _ _) ?_
    exact hx1 _ _ (hj1 (decide (x0.l9.d5 = 3)) d _ c h)
def C8 (a7d : Bool) (a : i4) (b : F3) (H : Hp) (K : Bool → Hp → Prop) : Prop :=
 (a7d = true →
 K (decide (a.fexprs = 0 ∧ a.fparts = 2)) H) ∧
 (a7d = false →
 K false H)
def C9 (a1z : Int) (a7e : Bool) (a : i4) (b : F3) (H : Hp) (K : Bool → Hp → Prop) : Prop :=
 (a7e = true →
 K (decide (a.fexprs = 0 ∧ a.fparts = 0)) H) ∧
 (a7e = false →
 (a1z = 4 →
 K (decide (a.fexprs = 0 ∧ a.fparts = 1)) H) ∧
 (¬ (a1z = 4) →
 (a1z = 5 →
 C8 (decide (a1z = 5)) a b H K) ∧
 (¬ (a1z = 5) →
 C8 (decide (a1z = 6)) a b H K)))
def X9 (x0 : F3) (H : Hp) (K : Bool → Hp → Prop) : Prop :=
 (x0.i8.d5 = 3 →
 K (((decide (1 ≤ x0.i8.fOp)) && (decide (x0.i8.fOp ≤ 6))) && (decide ((x0.i8.g5.n : Int) = 2 ∧ (x0.i8.o7.n : Int) = 0))) H) ∧
 (¬ (x0.i8.d5 = 3) →
 (¬ (x0.i8.fOp = 0) →
 K false H) ∧
 (x0.i8.fOp = 0 →
 (x0.i8.d5 = 1 →
 C9 x0.i8.d5 (decide (x0.i8.d5 = 1)) (i4.mk (x0.i8.g5.n : Int) (x0.i8.o7.n : Int)) x0 H K) ∧
 (¬ (x0.i8.d5 = 1) →
 C9 x0.i8.d5 (decide (x0.i8.d5 = 2)) (i4.mk (x0.i8.g5.n : Int) (x0.i8.o7.n : Int)) x0 H K)))
theorem a4F (x0 : F3) {H : Hp} {K : Bool → Hp → Prop} (h : X9 x0 H K) : X5 x0 H K := by
 refine Ct.of fun w0 w ps0 H0 R E I hR => b5G ?_
 unfold X9 at h
 unfold b7D
 refine C1 I (cs := (f9 x0.i8)) rfl fun e i d j => ?_
 refine c5 Q7 ?_
 refine c5 a3O ?_
 refine d3 (l1 Tryd.isAgg23 d rfl) ?_
 refine c5 (a0o _ _ _) ?_
 refine c5 Q7 ?_
 refine c5 Z1 ?_
 refine d3 (l1 Tryd.isAgg36 d rfl) ?_
 refine c5 (a3j _ _ _) ?_
 refine c5 (a1w _ _) ?_
 refine q9 d Tryd.zeroValue184 (cs := [(vi 0), (vi 0)]) rfl fun c k f l => ?_
 refine s9 f Tryd.sizeOf184 (vs := [(vi (x0.i8.g5.n : Int)), (vi (x0.i8.o7.n : Int))]) fun m b p => ?_
 refine c5 Q7 ?_
 refine c5 a5E ?_
 refine d3 (l1 Tryd.isAgg3 (b.bring 1) rfl) ?_
 refine c5 (f8 _ _ _ _ _ _) ?_
 refine d7 h (fun _ h => ?_) (fun _ h => ?_)
 ·refine c5 Q7 ?_
  refine c5 a2w ?_
  refine d3 (l1 Tryd.isAgg3 (b.bring 1) rfl) ?_
  refine c5 (a6v _ _ _ _ _ _) ?_
  refine c5 (Pu.g fun hb => by have a := hb; with_reducible exact Q7) ?_
  refine c5 (Pu.g fun hb => by have a := hb; simp only [r7 a]; with_reducible exact a2w) ?_
  refine d3 (Ld.g fun hb => by have a := hb; simp only [r7 a]; exact (l1 Tryd.isAgg3 (b.bring 1) rfl)) ?_
  refine c5 (Pu.g fun hb => by have a := hb; simp only [r7 a]; with_reducible exact (a7O _ _ _ _ _ _)) ?_
  refine c5 (L2 _ _) ?_
  refine d3 (Ld.g fun hb => by have a := hb; exact (ldA Tryd.isAgg184 Tryd.sizeOf184 rfl (b.at1 (o := 0) (vs := [(vi (x0.i8.g5.n : Int)), (vi (x0.i8.o7.n : Int))]) (nb rfl) rfl))) ?_
  refine c5 (Pu.g fun hb => by have a := hb; with_reducible exact (a1w _ _)) ?_
  refine c5 (Pu.g fun hb => by have a := hb; simp only [r7 a]; with_reducible exact (a4I _ _ _ _ _ _)) ?_
  refine c5 (L2 _ _) ?_
  exact hR _ H _ _ b.drop.drop ⟨(((decide (1 ≤ x0.i8.fOp)) && (decide (x0.i8.fOp ≤ 6))) && (decide ((x0.i8.g5.n : Int) = 2 ∧ (x0.i8.o7.n : Int) = 0))), rfl, rfl, h⟩
 ·refine c5 Q7 ?_
  refine c5 a2w ?_
  refine d3 (l1 Tryd.isAgg3 (b.bring 1) rfl) ?_
  refine c5 (a0Z _ _ _ _ _ _) ?_
  refine a5t h (fun _ h => ?_) (fun _ h => ?_)
  ·exact hR _ H _ _ b.drop.drop ⟨false, rfl, rfl, h⟩
  ·refine c5 Q7 ?_
   refine c5 a5E ?_
   refine d3 (l1 Tryd.isAgg3 (b.bring 1) rfl) ?_
   have hj1 : ∀ (a7e : Bool) (H : Hp) (w : World) (_ : Inv w0 ps0 H0 H [bx c 184 [(vi (i4.mk (x0.i8.g5.n : Int) (x0.i8.o7.n : Int)).fexprs), (vi (i4.mk (x0.i8.g5.n : Int) (x0.i8.o7.n : Int)).fparts)], bx e 181 (f9 x0.i8)] w) (_ : C9 x0.i8.d5 a7e (i4.mk (x0.i8.g5.n : Int) (x0.i8.o7.n : Int)) x0 H K), a8x (Value.pointer (some ⟨c, 0, none⟩)) (vi x0.i8.d5) (Value.bool a7e) w R E := by
    intro a7e H w I h
    unfold a8x
    intro _
    unfold C9 at h
    refine s7 h (fun _ h => ?_) (fun _ h => ?_)
    ·refine d3 (ldA Tryd.isAgg184 Tryd.sizeOf184 rfl (I.at1 (o := 0) (vs := [(vi (i4.mk (x0.i8.g5.n : Int) (x0.i8.o7.n : Int)).fexprs), (vi (i4.mk (x0.i8.g5.n : Int) (x0.i8.o7.n : Int)).fparts)]) (nb rfl) rfl)) ?_
     refine c5 (b1P ) ?_
     refine c5 (a4I _ _ _ _ _ _) ?_
     exact hR _ H _ _ I.drop.drop ⟨(decide ((i4.mk (x0.i8.g5.n : Int) (x0.i8.o7.n : Int)).fexprs = 0 ∧ (i4.mk (x0.i8.g5.n : Int) (x0.i8.o7.n : Int)).fparts = 0)), rfl, rfl, h⟩
    ·refine c5 (f8 _ _ _ _ _ _) ?_
     refine d7 h (fun _ h => ?_) (fun _ h => ?_)
     ·refine d3 (ldA Tryd.isAgg184 Tryd.sizeOf184 rfl (I.at1 (o := 0) (vs := [(vi (i4.mk (x0.i8.g5.n : Int) (x0.i8.o7.n : Int)).fexprs), (vi (i4.mk (x0.i8.g5.n : Int) (x0.i8.o7.n : Int)).fparts)]) (nb rfl) rfl)) ?_
      refine c5 (a1w _ _) ?_
      refine c5 (a4I _ _ _ _ _ _) ?_
      exact hR _ H _ _ I.drop.drop ⟨(decide ((i4.mk (x0.i8.g5.n : Int) (x0.i8.o7.n : Int)).fexprs = 0 ∧ (i4.mk (x0.i8.g5.n : Int) (x0.i8.o7.n : Int)).fparts = 1)), rfl, rfl, h⟩
     ·have hj2 : ∀ (a7d : Bool) (H : Hp) (w : World) (_ : Inv w0 ps0 H0 H [bx c 184 [(vi (i4.mk (x0.i8.g5.n : Int) (x0.i8.o7.n : Int)).fexprs), (vi (i4.mk (x0.i8.g5.n : Int) (x0.i8.o7.n : Int)).fparts)], bx e 181 (f9 x0.i8)] w) (_ : C8 a7d (i4.mk (x0.i8.g5.n : Int) (x0.i8.o7.n : Int)) x0 H K), a8w (Value.pointer (some ⟨c, 0, none⟩)) (Value.bool a7d) w R E := by
       intro a7d H w I h
       unfold a8w
       intro _
       unfold C8 at h
       refine s7 h (fun _ h => ?_) (fun _ h => ?_)
       ·refine d3 (ldA Tryd.isAgg184 Tryd.sizeOf184 rfl (I.at1 (o := 0) (vs := [(vi (i4.mk (x0.i8.g5.n : Int) (x0.i8.o7.n : Int)).fexprs), (vi (i4.mk (x0.i8.g5.n : Int) (x0.i8.o7.n : Int)).fparts)]) (nb rfl) rfl)) ?_
        refine c5 (a1w _ _) ?_
        refine c5 (a4I _ _ _ _ _ _) ?_
        exact hR _ H _ _ I.drop.drop ⟨(decide ((i4.mk (x0.i8.g5.n : Int) (x0.i8.o7.n : Int)).fexprs = 0 ∧ (i4.mk (x0.i8.g5.n : Int) (x0.i8.o7.n : Int)).fparts = 2)), rfl, rfl, h⟩
       ·exact hR _ H _ _ I.drop.drop ⟨false, rfl, rfl, h⟩
      refine r5 fun j2 hx2 => ?_
      refine c5 (f8 _ _ _ _ _ _) ?_
      refine d7 h (fun _ h => ?_) (fun _ h => ?_)
      ·exact hx2 _ _ (hj2 (decide (x0.i8.d5 = 5)) H _ ((I.bring 1).bring 1) h)
      ·refine c5 (f8 _ _ _ _ _ _) ?_
       exact hx2 _ _ (hj2 (decide (x0.i8.d5 = 6)) H _ ((I.bring 1).bring 1) h)
   refine r5 fun j1 hx1 => ?_
   refine c5 (f8 _ _ _ _ _ _) ?_
   refine d7 h (fun _ h => ?_) (fun _ h => ?_)
   ·exact hx1 _ _ (hj1 (decide (x0.i8.d5 = 1)) H _ ((b.bring 1).bring 1) h)
   ·refine c5 (f8 _ _ _ _ _ _) ?_
    exact hx1 _ _ (hj1 (decide (x0.i8.d5 = 2)) H _ ((b.bring 1).bring 1) h)
def W8 (x0 : F3) (H : Hp) (K : Sl → Hp → Prop) : Prop :=
 m9 x0.i8.g5 H (fun d e =>
 r9 x0.i8.o7 e (fun f g =>
 ∀ (a : Sl) (b : Hp), Hle g b → SlH b 1 csl a [d, f] → a.n ≤ a.c →
 r6 a b (fun i j =>
 K i j)))
theorem a4z (x0 : F3) {H : Hp} {K : Sl → Hp → Prop} (h : W8 x0 H K) : a1h x0 H K := by
 refine Ct.of fun w0 w ps0 H0 R E I hR => b5H ?_
 unfold W8 at h
 unfold b7E
 refine C1 I (cs := (f9 x0.i8)) rfl fun v y b z => ?_
 refine N7 b fun aa a => ?_
 refine f7 Q7 ?_
 refine f7 a3O ?_
 refine f7 Q7 ?_
 refine f7 Z1 ?_
 refine o8 (l1 Tryd.isAgg23 a rfl) ?_
 refine o8 (l1 Tryd.isAgg36 a rfl) ?_
 refine d9 Tryd.call97 h a ?_
 rintro _ _ _ ab d _ f ⟨g, rfl, rfl, h⟩
 refine ⟨(f _ a.lt1 (Inv.a2p (Fi := []) a)), ?_⟩
 refine d9 Tryd.call95 h d ?_
 rintro _ _ _ ac i _ _ ⟨j, rfl, rfl, h⟩
 refine a0p (e := 123) (c := csl) (xs := [g, j]) i (a9L _ _ _ _ _ _) rfl rfl a9l a9m (nb rfl) fun k ad ae l m af => ?_
 obtain ⟨n, o, p, q, r⟩ := Inv.freezeC m l (by decide)
 replace h := h k n p q r
 refine d9 Tryd.call55 h o ?_
 rintro _ s _ ag t _ _ ⟨u, rfl, rfl, h⟩
 exact hR _ s _ _ t.drop ⟨u, rfl, rfl, h⟩
end Go.Proofs.YtaokfhdinhimfaaDoor
