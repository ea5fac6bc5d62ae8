/- Typed formulas of the program's functions, and the theorems that the contracts follow from them; printed by lift.py off the code. -/
import Derived.Test.YtaokfhdinhimfaaDoorySV1
namespace Go.Proofs.YtaokfhdinhimfaaDoor
open Go.RowKit
set_option maxRecDepth 100000
set_option maxHeartbeats 2000000
def Y4 (a : c6) (b : c6) (H : Hp) (K : Bool → Hp → Prop) : Prop :=
 TG (((((decide (b.d4 = 12)) && (decide (a.d4 = 12))) && (decide (b.fA.s8 = a.fA.s8 ∧ b.fA.p6 = a.fA.p6))) && (decide (b.fB.s8 = a.fB.s8 ∧ b.fB.p6 = a.fB.p6))) = true) (a0j b.fOp H) 0 H (fun (c : Int) (d : Hp) =>
 K (((((decide (b.d4 = 12)) && (decide (a.d4 = 12))) && (decide (b.fA.s8 = a.fA.s8 ∧ b.fA.p6 = a.fA.p6))) && (decide (b.fB.s8 = a.fB.s8 ∧ b.fB.p6 = a.fB.p6))) && (decide (a.fOp = c))) d)
def a3s (x0 : Sl) (H : Hp) (K : Bool → Hp → Prop) : Prop :=
 ((x0.n : Int) = 0 →
 K true H) ∧
 (¬ ((x0.n : Int) = 0) →
 ((x0.n : Int) = 1 →
 (0 : Int) ≤ 0 ∧ (0 : Int) < x0.n ∧ ∃ a : c6, EltH H x0 0 10 (f6 a) ∧
 K (!decide (a.d4 = 12)) H) ∧
 (¬ ((x0.n : Int) = 1) →
 ((x0.n : Int) = 2 →
 (0 : Int) ≤ 0 ∧ (0 : Int) < x0.n ∧ ∃ b : c6, EltH H x0 0 10 (f6 b) ∧
 (0 : Int) ≤ 1 ∧ (1 : Int) < x0.n ∧ ∃ c : c6, EltH H x0 1 10 (f6 c) ∧
 Y4 c b H K) ∧
 (¬ ((x0.n : Int) = 2) →
 K false H)))
theorem a9b (x0 : Sl) {H : Hp} {K : Bool → Hp → Prop} (h : a3s x0 H K) : a3m x0 H K := by
 refine Ct.of fun w0 w ps0 H0 R E I hR => b9O ?_
 unfold a3s at h
 unfold F22
 refine c5 (a3J _ _ _) ?_
 refine c5 (f9 _ _ _ _ _ _) ?_
 refine d6 h (fun _ h => ?_) (fun _ h => ?_)
 ·exact hR _ H _ _ I ⟨true, rfl, rfl, h⟩
 ·refine c5 (f9 _ _ _ _ _ _) ?_
  refine d6 h (fun _ h => ?_) (fun _ h => ?_)
  ·obtain ⟨ak, al, ab, s, h⟩ := h
   obtain ⟨bg, bh, am, s⟩ := s
   refine c5 (a0X am _ _ _ _ ak al) ?_
   refine c5 a1x ?_
   refine c7 (ld1 (v := (vi ab.d4)) Tryd.isAgg3 ((I.atH s).sub (k := 2) (n := 1) (nb rfl))) ?_
   refine c5 (J9 _ _ _ _ _ _) ?_
   exact hR _ H _ _ I ⟨(!decide (ab.d4 = 12)), rfl, rfl, h⟩
  ·refine c5 (f9 _ _ _ _ _ _) ?_
   refine d6 h (fun _ h => ?_) (fun _ h => ?_)
   ·have hj1 : ∀ (c : c6) (d : c6) (f : Nat) (l : Nat) (H : Hp) (w : World) (_ : Inv w0 ps0 H0 H [bx f 46 (f6 c), bx l 46 (f6 d)] w) (_ : Y4 c d H K), b2e (Value.pointer (some ⟨l, 0, none⟩)) (Value.pointer (some ⟨f, 0, none⟩)) w R E := by
     intro c d f l H w I h
     unfold b2e
     intro _
     unfold Y4 at h
     refine L5 I fun bi b => ?_
     refine d7 a1x ?_
     refine o4 (l1 Tryd.isAgg3 (b.bring 1) rfl) ?_
     refine d7 (f9 _ _ _ _ _ _) ?_
     refine d7 (Pu.g fun hb => by have a := hb; with_reducible exact a1x) ?_
     refine R6 (p := (Value.pointer (some ⟨f, 2, none⟩))) rfl (Ld.g fun hb => by have a := hb; simp only [f8 a]; exact (l1 Tryd.isAgg3 b rfl)) ?_
     refine d7 (Pu.g fun hb => by have a := hb; simp only [f8 a]; with_reducible exact (f9 _ _ _ _ _ _)) ?_
     refine d7 (B9 _ _) ?_
     refine d7 (Pu.g fun hb => by have a := hb; with_reducible exact X9) ?_
     refine d7 (Pu.g fun hb => by have a := hb; with_reducible exact X9) ?_
     refine R6 (p := (Value.pointer (some ⟨l, 6, none⟩))) rfl (Ld.g fun hb => by have a := hb; simp only [f8 a]; exact (ldA Tryd.isAgg44 Tryd.sizeOf44 rfl ((b.bring 1).at1 (o := 6) (vs := (j9 d.fA)) (nb rfl) rfl))) ?_
     refine R6 (p := (Value.pointer (some ⟨f, 6, none⟩))) rfl (Ld.g fun hb => by have a := hb; simp only [f8 a]; exact (ldA Tryd.isAgg44 Tryd.sizeOf44 rfl (b.at1 (o := 6) (vs := (j9 c.fA)) (nb rfl) rfl))) ?_
     refine d7 (Pu.g fun hb => by have a := hb; simp only [f8 a]; with_reducible exact (a7j _ _ _ _ _ _)) ?_
     refine d7 (B9 _ _) ?_
     refine d7 (Pu.g fun hb => by have a := hb; with_reducible exact a1A) ?_
     refine d7 (Pu.g fun hb => by have a := hb; with_reducible exact a1A) ?_
     refine R6 (p := (Value.pointer (some ⟨l, 8, none⟩))) rfl (Ld.g fun hb => by have a := hb; simp only [f8 a]; exact (ldA Tryd.isAgg44 Tryd.sizeOf44 rfl ((b.bring 1).at1 (o := 8) (vs := (j9 d.fB)) (nb rfl) rfl))) ?_
     refine R6 (p := (Value.pointer (some ⟨f, 8, none⟩))) rfl (Ld.g fun hb => by have a := hb; simp only [f8 a]; exact (ldA Tryd.isAgg44 Tryd.sizeOf44 rfl (b.at1 (o := 8) (vs := (j9 c.fB)) (nb rfl) rfl))) ?_
     refine d7 (Pu.g fun hb => by have a := hb; simp only [f8 a]; with_reducible exact (a7j _ _ _ _ _ _)) ?_
     refine d7 (B9 _ _) ?_
     refine d7 (Pu.g fun hb => by have a := hb; with_reducible exact a1C) ?_
     refine d7 (Pu.g fun hb => by have a := hb; with_reducible exact a1C) ?_
     refine R6 (p := (Value.pointer (some ⟨f, 5, none⟩))) rfl (Ld.g fun hb => by have a := hb; simp only [f8 a]; exact (l1 Tryd.isAgg3 b rfl)) ?_
     refine R6 (p := (Value.pointer (some ⟨l, 5, none⟩))) rfl (Ld.g fun hb => by have a := hb; simp only [f8 a]; exact (l1 Tryd.isAgg3 (b.bring 1) rfl)) ?_
     refine U1 [] (fun m : Int => (vi m)) h b (fun ac h => ?_) fun m t an u y ad h => ?_
     ·have a := ac
      simp only [f8 a]
      refine f7 Tryd.call40 h b ?_
      rintro _ t _ an u ad y ⟨m, rfl, rfl, h⟩
      exact ⟨m, t, rfl, u, y, ad, h⟩
     refine ⟨(a2r (p := (Value.pointer (some ⟨f, 5, none⟩))) rfl (y _ b.lt1 (Inv.L6 (Fi := []) b))), ?_⟩
     refine d7 (Pu.g fun hb => by have a := hb; simp only [f8 a]; with_reducible exact (f9 _ _ _ _ _ _)) ?_
     refine d7 (B9 _ _) ?_
     exact hR _ t _ _ u.drop.drop ⟨(((((decide (d.d4 = 12)) && (decide (c.d4 = 12))) && (decide (d.fA.s8 = c.fA.s8 ∧ d.fA.p6 = c.fA.p6))) && (decide (d.fB.s8 = c.fB.s8 ∧ d.fB.p6 = c.fB.p6))) && (decide (c.fOp = m))), rfl, rfl, h⟩
    refine p8 fun j1 hx1 => ?_
    refine L5 I fun bj i => ?_
    obtain ⟨ao, ap, q, j, h⟩ := h
    obtain ⟨bk, bl, aq, j⟩ := j
    refine d7 (a0X aq _ _ _ _ ao ap) ?_
    obtain ⟨ar, au, r, e, h⟩ := h
    obtain ⟨bm, bn, av, e⟩ := e
    refine d7 (a0X av _ _ _ _ ar au) ?_
    refine o4 (ldA (vs := (f6 q)) Tryd.isAgg46 Tryd.sizeOf46 rfl (i.atH j)) ?_
    refine o4 (ldA (vs := (f6 r)) Tryd.isAgg46 Tryd.sizeOf46 rfl (i.atH e)) ?_
    refine ⟨?_, ?_⟩
    ·refine o3 i Tryd.zeroValue46 (cs := [(vi 0), (vi 0), (vi 0), (vi 0), (vi 0), (vi 0), (vi 0), (vi 0), (vi 0), (vi 0)]) rfl fun aw bo z ae => ?_
     refine ⟨(ae _ (i.a3R e)), (ae _ (i.a3R j)), ?_⟩
     refine o3 z Tryd.zeroValue46 (cs := [(vi 0), (vi 0), (vi 0), (vi 0), (vi 0), (vi 0), (vi 0), (vi 0), (vi 0), (vi 0)]) rfl fun ax bp af ag => ?_
     refine ⟨(ag _ (z.a3R e)), (ag _ (z.a3R j)), ?_⟩
     refine o8 (af.bring 1) Tryd.sizeOf46 (vs := (f6 q)) fun bq ay az => ?_
     refine ⟨(az _ (Inv.b9n (af.bring 1) e)), ?_⟩
     refine o8 (ay.bring 1) Tryd.sizeOf46 (vs := (f6 r)) fun br ba bs => ?_
     exact hx1 _ _ (hj1 r q ax aw H _ ((ba.bring 1).bring 1) h)
    ·refine o3 i Tryd.zeroValue46 (cs := [(vi 0), (vi 0), (vi 0), (vi 0), (vi 0), (vi 0), (vi 0), (vi 0), (vi 0), (vi 0)]) rfl fun bb bt aa ah => ?_
     refine ⟨(ah _ (i.a3R e)), (ah _ (i.a3R j)), ?_⟩
     refine o3 aa Tryd.zeroValue46 (cs := [(vi 0), (vi 0), (vi 0), (vi 0), (vi 0), (vi 0), (vi 0), (vi 0), (vi 0), (vi 0)]) rfl fun bc bu ai aj => ?_
     refine ⟨(aj _ (aa.a3R e)), (aj _ (aa.a3R j)), ?_⟩
     refine o8 ai Tryd.sizeOf46 (vs := (f6 q)) fun bv bd be => ?_
     refine ⟨(be _ (Inv.b9n ai e)), ?_⟩
     refine o8 (bd.bring 1) Tryd.sizeOf46 (vs := (f6 r)) fun bw bf bz => ?_
     exact hx1 _ _ (hj1 r q bb bc H _ ((bf.bring 1).bring 1) h)
   ·exact hR _ H _ _ I ⟨false, rfl, rfl, h⟩
def a0o (x0 : d8) (x1 : Int) (H : Hp) (K : Bool → Hp → Prop) : Prop :=
 K ((decide (0 ≤ x1)) && (decide (x1 < x0.m7.f4))) H
theorem a5N (x0 : d8) (x1 : Int) {H : Hp} {K : Bool → Hp → Prop} (h : a0o x0 x1 H K) : L8 x0 x1 H K := by
 refine Ct.of fun w0 w ps0 H0 R E I hR => b9M ?_
 unfold a0o at h
 unfold F20
 refine A5 I (cs := (j6 x0.m7)) rfl fun c d b e => ?_
 refine c5 (a3Q _ _ _ _ _ _) ?_
 simp only [G0]
 refine c5 (Pu.g fun hb => by have a := hb; with_reducible exact a3V) ?_
 refine c5 (Pu.g fun hb => by have a := hb; simp only [f8 a]; with_reducible exact K1) ?_
 refine c7 (Ld.g fun hb => by have a := hb; simp only [f8 a]; exact (l1 Tryd.isAgg3 b rfl)) ?_
 refine c5 (Pu.g fun hb => by have a := hb; simp only [f8 a]; with_reducible exact (v8 _ _ _ _ _ _)) ?_
 refine c5 (B9 _ _) ?_
 exact hR _ H _ _ b.drop ⟨((decide (0 ≤ x1)) && (decide (x1 < x0.m7.f4))), rfl, rfl, h⟩
def U5 (x0 : d8) (x1 : Int) (H : Hp) (K : Bool → Hp → Prop) : Prop :=
 K ((decide (0 ≤ x1)) && (decide (x1 < (IntKind.wrap .i64 ((x0.m7.p7.n : Int) + x0.m7.r8))))) H
theorem a4J (x0 : d8) (x1 : Int) {H : Hp} {K : Bool → Hp → Prop} (h : U5 x0 x1 H K) : N7 x0 x1 H K := by
 refine Ct.of fun w0 w ps0 H0 R E I hR => c0c ?_
 unfold U5 at h
 unfold F36
 refine A5 I (cs := (j6 x0.m7)) rfl fun c d b e => ?_
 refine c5 (a3Q _ _ _ _ _ _) ?_
 simp only [G0]
 refine c5 (Pu.g fun hb => by have a := hb; with_reducible exact a3V) ?_
 refine c5 (Pu.g fun hb => by have a := hb; simp only [f8 a]; with_reducible exact a5m) ?_
 refine c7 (Ld.g fun hb => by have a := hb; simp only [f8 a]; exact (l1 Tryd.isAgg26 b rfl)) ?_
 refine c5 (Pu.g fun hb => by have a := hb; simp only [f8 a]; with_reducible exact (a3L _ _ _)) ?_
 refine c5 (Pu.g fun hb => by have a := hb; with_reducible exact a3V) ?_
 refine c5 (Pu.g fun hb => by have a := hb; simp only [f8 a]; with_reducible exact a0P) ?_
 refine c7 (Ld.g fun hb => by have a := hb; simp only [f8 a]; exact (l1 Tryd.isAgg3 b rfl)) ?_
 refine c5 (Pu.g fun hb => by have a := hb; simp only [f8 a]; with_reducible exact (s6 _ _ _ _ _ _)) ?_
 refine c5 (Pu.g fun hb => by have a := hb; simp only [f8 a]; with_reducible exact (v8 _ _ _ _ _ _)) ?_
 refine c5 (B9 _ _) ?_
 exact hR _ H _ _ b.drop ⟨((decide (0 ≤ x1)) && (decide (x1 < (IntKind.wrap .i64 ((x0.m7.p7.n : Int) + x0.m7.r8))))), rfl, rfl, h⟩
def a0p (x0 : d8) (x1 : Int) (H : Hp) (K : Bool → Hp → Prop) : Prop :=
 K ((decide (0 ≤ x1)) && (decide (x1 < (x0.m7.m9.n : Int)))) H
theorem a5O (x0 : d8) (x1 : Int) {H : Hp} {K : Bool → Hp → Prop} (h : a0p x0 x1 H K) : a0k x0 x1 H K := by
 refine Ct.of fun w0 w ps0 H0 R E I hR => c0d ?_
 unfold a0p at h
 unfold F37
 refine A5 I (cs := (j6 x0.m7)) rfl fun c d b e => ?_
 refine c5 (a3Q _ _ _ _ _ _) ?_
 simp only [G0]
 refine c5 (Pu.g fun hb => by have a := hb; with_reducible exact a3V) ?_
 refine c5 (Pu.g fun hb => by have a := hb; simp only [f8 a]; with_reducible exact a7n) ?_
 refine c7 (Ld.g fun hb => by have a := hb; simp only [f8 a]; exact (l1 Tryd.isAgg27 b rfl)) ?_
 refine c5 (Pu.g fun hb => by have a := hb; simp only [f8 a]; with_reducible exact (a2y _ _ _)) ?_
 refine c5 (Pu.g fun hb => by have a := hb; simp only [f8 a]; with_reducible exact (v8 _ _ _ _ _ _)) ?_
 refine c5 (B9 _ _) ?_
 exact hR _ H _ _ b.drop ⟨((decide (0 ≤ x1)) && (decide (x1 < (x0.m7.m9.n : Int)))), rfl, rfl, h⟩
def W2 (x0 : d8) (x1 : i5) (H : Hp) (K : Bool → Hp → Prop) : Prop :=
 TG ((decide (x1.s8 = (-1))) = false) (N7 x0 x1.s8 H) false H (fun (a : Bool) (b : Hp) =>
 K ((decide (x1.s8 = (-1))) || (a && (decide (x1.p6 = 0)))) b)
theorem a4Z (x0 : d8) (x1 : i5) {H : Hp} {K : Bool → Hp → Prop} (h : W2 x0 x1 H K) : O2 x0 x1 H K := by
 refine Ct.of fun w0 w ps0 H0 R E I hR => c0e ?_
 unfold W2 at h
 unfold F38
 refine A5 I (cs := (j6 x0.m7)) rfl fun o p m q => ?_
 refine A5 m (cs := (j9 x1)) rfl fun r s c t => ?_
 refine c5 a5n ?_
 refine c7 (l1 Tryd.isAgg3 c rfl) ?_
 refine c5 (f9 _ _ _ _ _ _) ?_
 refine c7 (Ld.g fun hb => by have a := hb; exact (lW Tryd.isAgg71 Tryd.sizeOf71 rfl (c.bring 1))) ?_
 refine c5 (Pu.g fun hb => by have a := hb; with_reducible exact a5n) ?_
 refine c7 (Ld.g fun hb => by have a := hb; simp only [f8 a]; exact (l1 Tryd.isAgg3 c rfl)) ?_
 refine U1 [] (fun f : Bool => (Value.bool f)) h c (fun j h => ?_) fun f i n d k l h => ?_
 ·have a := j
  simp only [f8 a]
  refine f7 Tryd.call36 h c ?_
  rintro _ i _ n d l k ⟨f, rfl, rfl, h⟩
  exact ⟨f, i, rfl, d, k, l, h⟩
 simp only [G0, b1m]
 refine c5 (Pu.e (a2Q _ _ _) (Pu.g fun hb => by obtain ⟨a, b⟩ := a5i hb; with_reducible exact b4h)) ?_
 refine c7 (Ld.e (a2Q _ _ _) (Ld.g fun hb => by obtain ⟨a, b⟩ := a5i hb; simp only [f8 hb]; exact (l1 Tryd.isAgg2 d rfl))) ?_
 refine c5 (Pu.e (a2Q _ _ _) (Pu.g fun hb => by obtain ⟨a, b⟩ := a5i hb; simp only [f8 hb]; with_reducible exact (f9 _ _ _ _ _ _))) ?_
 refine c5 (Pu.g fun hb => by have a := hb; simp only [f8 a, b1z a]; with_reducible exact (B9 _ _)) ?_
 refine c5 (F8 _ _) ?_
 exact hR _ i _ _ d.drop.drop ⟨((decide (x1.s8 = (-1))) || (f && (decide (x1.p6 = 0)))), rfl, rfl, h⟩
def a0q (x0 : d8) (x1 : c6) (H : Hp) (K : Bool → Hp → Prop) : Prop :=
 L8 x0 x1.u9 H (fun f g =>
 TG ((!f) = false) (L8 x0 x1.fTo g) false g (fun (i : Bool) (j : Hp) =>
 ((((((!f) || (!i)) || (decide (x1.u9 = x0.m7.s7))) || (decide (x1.d4 < 1))) || (decide (14 < x1.d4))) = true →
 K false j) ∧
 ((((((!f) || (!i)) || (decide (x1.u9 = x0.m7.s7))) || (decide (x1.d4 < 1))) || (decide (14 < x1.d4))) = false →
 a1D x1.d4 j (fun d v =>
 N7 x0 x1.a0W v (fun y z =>
 O5 d.fdst y (decide (x1.a0W = (-1))) z (fun a k =>
 TG (a = true) (a0k x0 x1.Q1 k) false k (fun (aa : Bool) (l : Hp) =>
 TG (a = true) (O5 d.farr aa (decide (x1.Q1 = (-1))) l) false l (fun (b : Bool) (m : Hp) =>
 TG ((a && b) = true) (O5 d.fop ((decide (1 ≤ x1.fOp)) && (decide (x1.fOp ≤ 6))) (decide (x1.fOp = 0)) m) false m (fun (c : Bool) (n : Hp) =>
 TG (((a && b) && c) = true) (O2 x0 x1.fA n) false n (fun (ab : Bool) (o : Hp) =>
 TG (((a && b) && c) = true) (J0 o) (i5.mk 0 0) o (fun (p : i5) (q : Hp) =>
 TG (((a && b) && c) = true) (O5 d.fa ab (decide (x1.fA.s8 = p.s8 ∧ x1.fA.p6 = p.p6)) q) false q (fun (e : Bool) (r : Hp) =>
 TG ((((a && b) && c) && e) = true) (O2 x0 x1.fB r) false r (fun (ac : Bool) (s : Hp) =>
 TG ((((a && b) && c) && e) = true) (J0 s) (i5.mk 0 0) s (fun (t : i5) (u : Hp) =>
 TG ((((a && b) && c) && e) = true) (O5 d.fb ac (decide (x1.fB.s8 = t.s8 ∧ x1.fB.p6 = t.p6)) u) false u (fun (ad : Bool) (ae : Hp) =>
 K ((((a && b) && c) && e) && ad) ae)))))))))))))))
theorem a5P (x0 : d8) (x1 : c6) {H : Hp} {K : Bool → Hp → Prop} (h : a0q x0 x1 H K) : a0l x0 x1 H K := by
 refine Ct.of fun w0 w ps0 H0 R E I hR => b9N ?_
 unfold a0q at h
 unfold F21
 refine A5 I (cs := (j6 x0.m7)) rfl fun cu cv cc cw => ?_
 refine A5 cc (cs := (f6 x1)) rfl fun k cx am cy => ?_
 refine c7 (lW Tryd.isAgg71 Tryd.sizeOf71 rfl (am.bring 1)) ?_
 refine c5 T4 ?_
 refine c7 (l1 Tryd.isAgg3 am rfl) ?_
 refine f7 Tryd.call20 h am ?_
 rintro _ _ _ cz n _ _ ⟨da, rfl, rfl, h⟩
 refine c5 (N6 _) ?_
 refine c7 (Ld.g fun hb => by have a := hb; exact (lW Tryd.isAgg71 Tryd.sizeOf71 rfl (n.bring 1))) ?_
 refine c5 (Pu.g fun hb => by have a := hb; with_reducible exact a5j) ?_
 refine c7 (Ld.g fun hb => by have a := hb; simp only [f8 a]; exact (l1 Tryd.isAgg3 n rfl)) ?_
 refine U1 [] (fun y : Bool => (Value.bool y)) h n (fun aq h => ?_) fun y an cd i ar au h => ?_
 ·have a := aq
  simp only [f8 a]
  refine f7 Tryd.call20 h n ?_
  rintro _ an _ cd i au ar ⟨y, rfl, rfl, h⟩
  exact ⟨y, an, rfl, i, ar, au, h⟩
 refine c5 (Pu.g fun hb => by have a := hb; simp only [f8 a]; with_reducible exact (N6 _)) ?_
 refine c5 (F8 _ _) ?_
 refine c5 (Pu.g fun hb => by have a := hb; with_reducible exact T4) ?_
 refine c7 (Ld.g fun hb => by have a := hb; simp only [f8 a]; exact (l1 Tryd.isAgg3 i rfl)) ?_
 refine c5 (Pu.g fun hb => by have a := hb; with_reducible exact a3V) ?_
 refine c5 (Pu.g fun hb => by have a := hb; simp only [f8 a]; with_reducible exact a1y) ?_
 refine c7 (Ld.g fun hb => by have a := hb; simp only [f8 a]; exact (l1 Tryd.isAgg3 (i.bring 1) rfl)) ?_
 refine c5 (Pu.g fun hb => by have a := hb; simp only [f8 a]; with_reducible exact (f9 _ _ _ _ _ _)) ?_
 refine c5 (F8 _ _) ?_
 refine c5 (Pu.g fun hb => by have a := hb; with_reducible exact a1x) ?_
 refine c7 (Ld.g fun hb => by have a := hb; simp only [f8 a]; exact (l1 Tryd.isAgg3 i rfl)) ?_
 refine c5 (Pu.g fun hb => by have a := hb; simp only [f8 a]; with_reducible exact (v8 _ _ _ _ _ _)) ?_
 refine c5 (F8 _ _) ?_
 refine c5 (Pu.g fun hb => by have a := hb; with_reducible exact a1x) ?_
 refine c7 (Ld.g fun hb => by have a := hb; simp only [f8 a]; exact (l1 Tryd.isAgg3 i rfl)) ?_
 refine c5 (Pu.g fun hb => by have a := hb; simp only [f8 a]; with_reducible exact (O8 _ _ _ _ _ _)) ?_
 refine c5 (F8 _ _) ?_
 refine o5 h (fun _ h => ?_) (fun _ h => ?_)
 ·exact hR _ an _ _ i.drop.drop ⟨false, rfl, rfl, h⟩
 ·refine c5 a1x ?_
  refine c7 (l1 Tryd.isAgg3 i rfl) ?_
  refine f7 Tryd.call34 h i ?_
  rintro _ _ _ db ce _ _ ⟨cf, rfl, rfl, h⟩
  refine o3 ce Tryd.zeroValue91 (cs := [(Value.bool false), (Value.bool false), (Value.bool false), (Value.bool false), (Value.bool false)]) rfl fun l dc cg dd => ?_
  refine o8 cg Tryd.sizeOf91 (vs := (a3W cf)) fun de ch df => ?_
  refine L5 ch fun dg m => ?_
  refine d7 a5q ?_
  refine d7 a5l ?_
  refine d7 a5l ?_
  refine o4 (l1 Tryd.isAgg4 m rfl) ?_
  refine o4 (lW Tryd.isAgg71 Tryd.sizeOf71 rfl (m.bring 2)) ?_
  refine o4 (l1 Tryd.isAgg3 (m.bring 1) rfl) ?_
  refine o4 (l1 Tryd.isAgg3 (m.bring 1) rfl) ?_
  refine d7 (f9 _ _ _ _ _ _) ?_
  refine f7 Tryd.call36 h m ?_
  rintro _ _ _ dh ci _ av ⟨di, rfl, rfl, h⟩
  refine ⟨(av _ (m.bring 1).lt1 (Inv.L6 (Fi := []) (m.bring 1))), (av _ m.lt1 (Inv.L6 (Fi := []) m)), ?_⟩
  refine f7 Tryd.call35 h ci ?_
  rintro _ _ _ dj f _ _ ⟨cj, rfl, rfl, h⟩
  refine d7 (Pu.g fun hb => by have a := hb; with_reducible exact a7p) ?_
  refine d7 (Pu.g fun hb => by have a := hb; with_reducible exact a5o) ?_
  refine d7 (Pu.g fun hb => by have a := hb; with_reducible exact a5o) ?_
  refine R6 (p := (Value.pointer (some ⟨l, 1, none⟩))) rfl (Ld.g fun hb => by have a := hb; simp only [f8 a]; exact (l1 Tryd.isAgg4 f rfl)) ?_
  refine o4 (Ld.g fun hb => by have a := hb; exact (lW Tryd.isAgg71 Tryd.sizeOf71 rfl (f.bring 2))) ?_
  refine R6 (p := (Value.pointer (some ⟨k, 4, none⟩))) rfl (Ld.g fun hb => by have a := hb; simp only [f8 a]; exact (l1 Tryd.isAgg3 (f.bring 1) rfl)) ?_
  refine R6 (p := (Value.pointer (some ⟨k, 4, none⟩))) rfl (Ld.g fun hb => by have a := hb; simp only [f8 a]; exact (l1 Tryd.isAgg3 (f.bring 1) rfl)) ?_
  refine d7 (Pu.g fun hb => by have a := hb; simp only [f8 a]; with_reducible exact (f9 _ _ _ _ _ _)) ?_
  refine U1 [] (fun z : Bool => (Value.bool z)) h f (fun aw h => ?_) fun z ax ck aa ab ay h => ?_
  ·have a := aw
   simp only [f8 a]
   refine f7 Tryd.call37 h f ?_
   rintro _ ax _ ck aa ay ab ⟨z, rfl, rfl, h⟩
   exact ⟨z, ax, rfl, aa, ab, ay, h⟩
  refine ⟨(a2r (p := (Value.pointer (some ⟨k, 4, none⟩))) rfl (ab _ (f.bring 1).lt1 (Inv.L6 (Fi := []) (f.bring 1)))), (a2r (p := (Value.pointer (some ⟨l, 1, none⟩))) rfl (ab _ f.lt1 (Inv.L6 (Fi := []) f))), ?_⟩
  refine U1 [] (fun s : Bool => (Value.bool s)) h aa (fun az h => ?_) fun s ba cl j bb bc h => ?_
  ·have a := az
   simp only [f8 a]
   refine f7 Tryd.call35 h aa ?_
   rintro _ ba _ cl j bc bb ⟨s, rfl, rfl, h⟩
   exact ⟨s, ba, rfl, j, bb, bc, h⟩
  refine d7 (B9 _ _) ?_
  refine d7 (Pu.g fun hb => by have a := hb; with_reducible exact a9R) ?_
  refine d7 (Pu.g fun hb => by have a := hb; with_reducible exact a1C) ?_
  refine d7 (Pu.g fun hb => by have a := hb; with_reducible exact a1C) ?_
  refine R6 (p := (Value.pointer (some ⟨l, 2, none⟩))) rfl (Ld.g fun hb => by have a := hb; simp only [f8 a]; exact (l1 Tryd.isAgg4 j rfl)) ?_
  refine R6 (p := (Value.pointer (some ⟨k, 5, none⟩))) rfl (Ld.g fun hb => by have a := hb; simp only [f8 a]; exact (l1 Tryd.isAgg3 (j.bring 1) rfl)) ?_
  refine d7 (Pu.g fun hb => by have a := hb; simp only [f8 a]; with_reducible exact (a3Q _ _ _ _ _ _)) ?_
  simp only [G0, b1m]
  refine d7 (Pu.e (b0r _ _ _) (Pu.g fun hb => by obtain ⟨a, b⟩ := b4d hb; with_reducible exact a1C)) ?_
  refine c2q (b0r _ _ _) rfl (R6 (p := (Value.pointer (some ⟨k, 5, none⟩))) rfl (Ld.g fun hb => by obtain ⟨a, b⟩ := b4d hb; simp only [f8 hb]; exact (l1 Tryd.isAgg3 (j.bring 1) rfl)) ?_)
  refine d7 (Pu.e (b0r _ _ _) (Pu.g fun hb => by obtain ⟨a, b⟩ := b4d hb; simp only [f8 hb]; with_reducible exact (a8g _ _ _ _ _ _))) ?_
  refine d7 (Pu.g fun hb => by have a := hb; simp only [f8 a, b9l a]; with_reducible exact (B9 _ _)) ?_
  refine R6 (p := (Value.pointer (some ⟨k, 5, none⟩))) rfl (Ld.g fun hb => by have a := hb; simp only [f8 a]; exact (l1 Tryd.isAgg3 (j.bring 1) rfl)) ?_
  refine d7 (Pu.g fun hb => by have a := hb; simp only [f8 a]; with_reducible exact (f9 _ _ _ _ _ _)) ?_
  refine U1 [] (fun t : Bool => (Value.bool t)) h j (fun bd h => ?_) fun t be cm c bf bg h => ?_
  ·have a := bd
   simp only [f8 a]
   refine f7 Tryd.call35 h j ?_
   rintro _ be _ cm c bg bf ⟨t, rfl, rfl, h⟩
   exact ⟨t, be, rfl, c, bf, bg, h⟩
  refine d7 (B9 _ _) ?_
  refine d7 (Pu.g fun hb => by have a := hb; with_reducible exact b4f) ?_
  refine d7 (Pu.g fun hb => by have a := hb; with_reducible exact X9) ?_
  refine d7 (Pu.g fun hb => by have a := hb; with_reducible exact X9) ?_
  refine R6 (p := (Value.pointer (some ⟨l, 3, none⟩))) rfl (Ld.g fun hb => by have a := hb; simp only [f8 a]; exact (l1 Tryd.isAgg4 c rfl)) ?_
  refine o4 (Ld.g fun hb => by have a := hb; exact (lW Tryd.isAgg71 Tryd.sizeOf71 rfl (c.bring 2))) ?_
  refine R6 (p := (Value.pointer (some ⟨k, 6, none⟩))) rfl (Ld.g fun hb => by have a := hb; simp only [f8 a]; exact (ldA Tryd.isAgg44 Tryd.sizeOf44 rfl ((c.bring 1).at1 (o := 6) (vs := (j9 x1.fA)) (nb rfl) rfl))) ?_
  refine R6 (p := (Value.pointer (some ⟨k, 6, none⟩))) rfl (Ld.g fun hb => by have a := hb; simp only [f8 a]; exact (ldA Tryd.isAgg44 Tryd.sizeOf44 rfl ((c.bring 1).at1 (o := 6) (vs := (j9 x1.fA)) (nb rfl) rfl))) ?_
  refine U1 [] (fun ac : Bool => (Value.bool ac)) h c (fun bh h => ?_) fun ac bi cn q ad bj h => ?_
  ·have a := bh
   simp only [f8 a]
   refine f7 Tryd.call38 h c ?_
   rintro _ bi _ cn q bj ad ⟨ac, rfl, rfl, h⟩
   exact ⟨ac, bi, rfl, q, ad, bj, h⟩
  refine ⟨(a2r (p := (Value.pointer (some ⟨k, 6, none⟩))) rfl (ad _ (c.bring 1).lt1 (Inv.L6 (Fi := []) (c.bring 1)))), (a2r (p := (Value.pointer (some ⟨l, 3, none⟩))) rfl (ad _ c.lt1 (Inv.L6 (Fi := []) c))), ?_⟩
  refine U1 [] (fun ae : i5 => (Value.agg (j9 ae).toArray)) h q (fun bk h => ?_) fun ae bl co af ag bm h => ?_
  ·have a := bk
   refine f7 Tryd.call39 h q ?_
   rintro _ bl _ co af bm ag ⟨ae, rfl, rfl, h⟩
   exact ⟨ae, bl, rfl, af, ag, bm, h⟩
  refine ⟨(a2r (p := (Value.pointer (some ⟨k, 6, none⟩))) rfl (ag _ (q.bring 1).lt1 (Inv.L6 (Fi := []) (q.bring 1)))), (a2r (p := (Value.pointer (some ⟨l, 3, none⟩))) rfl (ag _ q.lt1 (Inv.L6 (Fi := []) q))), ?_⟩
  refine d7 (Pu.g fun hb => by have a := hb; simp only [f8 a]; with_reducible exact (a7j _ _ _ _ _ _)) ?_
  refine U1 [] (fun u : Bool => (Value.bool u)) h af (fun bn h => ?_) fun u bo cp d bp bq h => ?_
  ·have a := bn
   simp only [f8 a]
   refine f7 Tryd.call35 h af ?_
   rintro _ bo _ cp d bq bp ⟨u, rfl, rfl, h⟩
   exact ⟨u, bo, rfl, d, bp, bq, h⟩
  refine d7 (B9 _ _) ?_
  refine d7 (Pu.g fun hb => by have a := hb; with_reducible exact a5r) ?_
  refine d7 (Pu.g fun hb => by have a := hb; with_reducible exact a1A) ?_
  refine d7 (Pu.g fun hb => by have a := hb; with_reducible exact a1A) ?_
  refine R6 (p := (Value.pointer (some ⟨l, 4, none⟩))) rfl (Ld.g fun hb => by have a := hb; simp only [f8 a]; exact (l1 Tryd.isAgg4 d rfl)) ?_
  refine o4 (Ld.g fun hb => by have a := hb; exact (lW Tryd.isAgg71 Tryd.sizeOf71 rfl (d.bring 2))) ?_
  refine R6 (p := (Value.pointer (some ⟨k, 8, none⟩))) rfl (Ld.g fun hb => by have a := hb; simp only [f8 a]; exact (ldA Tryd.isAgg44 Tryd.sizeOf44 rfl ((d.bring 1).at1 (o := 8) (vs := (j9 x1.fB)) (nb rfl) rfl))) ?_
  refine R6 (p := (Value.pointer (some ⟨k, 8, none⟩))) rfl (Ld.g fun hb => by have a := hb; simp only [f8 a]; exact (ldA Tryd.isAgg44 Tryd.sizeOf44 rfl ((d.bring 1).at1 (o := 8) (vs := (j9 x1.fB)) (nb rfl) rfl))) ?_
  refine U1 [] (fun ah : Bool => (Value.bool ah)) h d (fun br h => ?_) fun ah bs cq r ai bt h => ?_
  ·have a := br
   simp only [f8 a]
   refine f7 Tryd.call38 h d ?_
   rintro _ bs _ cq r bt ai ⟨ah, rfl, rfl, h⟩
   exact ⟨ah, bs, rfl, r, ai, bt, h⟩
  refine ⟨(a2r (p := (Value.pointer (some ⟨k, 8, none⟩))) rfl (ai _ (d.bring 1).lt1 (Inv.L6 (Fi := []) (d.bring 1)))), (a2r (p := (Value.pointer (some ⟨l, 4, none⟩))) rfl (ai _ d.lt1 (Inv.L6 (Fi := []) d))), ?_⟩
  refine U1 [] (fun aj : i5 => (Value.agg (j9 aj).toArray)) h r (fun bu h => ?_) fun aj bv cr ak al bw h => ?_
  ·have a := bu
   refine f7 Tryd.call39 h r ?_
   rintro _ bv _ cr ak bw al ⟨aj, rfl, rfl, h⟩
   exact ⟨aj, bv, rfl, ak, al, bw, h⟩
  refine ⟨(a2r (p := (Value.pointer (some ⟨k, 8, none⟩))) rfl (al _ (r.bring 1).lt1 (Inv.L6 (Fi := []) (r.bring 1)))), (a2r (p := (Value.pointer (some ⟨l, 4, none⟩))) rfl (al _ r.lt1 (Inv.L6 (Fi := []) r))), ?_⟩
  refine d7 (Pu.g fun hb => by have a := hb; simp only [f8 a]; with_reducible exact (a7j _ _ _ _ _ _)) ?_
  refine U1 [] (fun v : Bool => (Value.bool v)) h ak (fun bz h => ?_) fun v ao ct ap ca cb h => ?_
  ·have a := bz
   simp only [f8 a]
   refine f7 Tryd.call35 h ak ?_
   rintro _ ao _ ct ap cb ca ⟨v, rfl, rfl, h⟩
   exact ⟨v, ao, rfl, ap, ca, cb, h⟩
  refine d7 (B9 _ _) ?_
  exact hR _ ao _ _ ap.drop.drop.drop ⟨((((cj && s) && t) && u) && v), rfl, rfl, h⟩
def G6 (c2J : Int) (c2B : Sl) (c2C : Int) (c1N : Int) (a6N : (List Bool)) (c2D : Sl) (c2E : m0) (a6O : (List Int)) (H : Hp) (n2 : (Int × (List Bool) × (List Int)) → Hp → Prop) (K : Sl → (List Bool) → Sl → (List Int) → Hp → Prop) : Prop :=
 n2 ((IntKind.wrap .i64 (c1N + 1)), a6N, a6O) H
def R7 (a2h : Int) (a6P : (List Bool)) (c2F : Sl) (c2G : m0) (a4K : (List Int)) (H : Hp) (K : Sl → (List Bool) → Sl → (List Int) → Hp → Prop) : Prop :=
 (a4K.length + ([a2h] : List Int).length) * 9 ≤ 140737488355328 ∧
 K (Sl.mk none 0 0) a6P (Sl.mk none 0 0) (a4K ++ [a2h]) H
def R8 (b6Q : Int) (T7 : Sl) (b1n : Int) (b1o : Sl) (a8K : m0) (U9 : Int) (X7 : (List Bool)) (a0r : (List Int)) (H : Hp) (n2 : (Int × (List Bool) × (List Int)) → Hp → Prop) (K : Sl → (List Bool) → Sl → (List Int) → Hp → Prop) : Prop :=
 (U9 < b1n →
 (0 : Int) ≤ U9 ∧ (U9 : Int) < T7.n ∧ ∃ a : Int, EltH H T7 U9 1 [(vi a)] ∧
 (0 : Int) ≤ a ∧ (a : Int) < a8K.v7.n ∧ ∃ b : c6, EltH H a8K.v7 a 10 (f6 b) ∧
 (0 : Int) ≤ b.fTo ∧ ∃ c : Bool, (X7)[(b.fTo : Int).toNat]? = some c ∧
 ((!c) = true →
 Y1 b.fTo (Sl.mk none 0 0) X7 b1o a8K (Sl.mk none 0 0) a0r H (fun e y0__106 f y1__106 d =>
 G6 b6Q T7 b1n U9 y0__106 b1o a8K y1__106 d n2 K)) ∧
 ((!c) = false →
 G6 b6Q T7 b1n U9 X7 b1o a8K a0r H n2 K)) ∧
 (¬ (U9 < b1n) →
 R7 b6Q X7 b1o a8K a0r H K)
def a1G (x0 : Int) (x1 : Sl) (x1_ : (List Bool)) (x2 : Sl) (x3 : m0) (x5 : Sl) (x5_ : (List Int)) (H : Hp) (K : Sl → (List Bool) → Sl → (List Int) → Hp → Prop) : Prop :=
 (0 : Int) ≤ x0 ∧ ∃ b : Bool, (x1_)[(x0 : Int).toNat]? = some b ∧
 (0 : Int) ≤ x0 ∧ (x0 : Int) < x2.n ∧ ∃ a : Sl, EltH H x2 x0 1 [(vs a)] ∧
 TL ((0, (x1_.set (x0 : Int).toNat true), x5_) : Int × (List Bool) × (List Int)) H fun (s : Int × (List Bool) × (List Int)) H n2 => R8 x0 a (a.n : Int) x2 x3 s.1 s.2.1 s.2.2 H n2 K
theorem a7s (x0 : Int) (x1 : Sl) (x1_ : (List Bool)) (x2 : Sl) (x3 : m0) (x5 : Sl) (x5_ : (List Int)) {H : Hp} {K : Sl → (List Bool) → Sl → (List Int) → Hp → Prop} (h : a1G x0 x1 x1_ x2 x3 x5 x5_ H K) : Y1 x0 x1 x1_ x2 x3 x5 x5_ H K := by
 intro g1 g2 g3 g4 g5 sx1_ Fx1_ sx5_ Fx5_ hx1_ hx5_
 refine Ct.of fun w0 w ps0 H0 R E I hR => b9I ?_
 unfold a1G at h
 unfold F16
 refine c7 (l1 Tryd.isAgg65 I rfl) ?_
 obtain ⟨t, bd, g, h⟩ := h
 obtain ⟨be, bf, u, bg⟩ := hx1_.addr g
 refine c5 (a9u u _ _ _ _ t (hx1_.lt t g)) ?_
 refine a5B (x := true) (I.bring 1) hx1_ u (List.getElem?_eq_some_iff.1 g).1 Tryd.sizeOf4 rfl fun ac bh ad i bi => ?_
 have hj1 : ∀ (a6P : (List Bool)) (a4K : (List Int)) (a9T : Sl) (Fcp1j1 : Frag) (a9U : Sl) (Fcp5j1 : Frag) (H : Hp) (w : World) (_ : RowL 4 1 a3K a9T a6P Fcp1j1) (_ : RowL 3 1 C9 a9U a4K Fcp5j1) (_ : Inv w0 ps0 H0 H [bx g1 65 [(vs a9T)], bx g2 63 [(vs x2)], bx g3 30 (j6 x3), bx g4 66 [(Value.func (.func 16) #[] #[(Value.pointer (some ⟨g1, 0, none⟩)), (Value.pointer (some ⟨g2, 0, none⟩)), (Value.pointer (some ⟨g3, 0, none⟩)), (Value.pointer (some ⟨g4, 0, none⟩)), (Value.pointer (some ⟨g5, 0, none⟩))])], bx g5 49 [(vs a9U)], Fcp1j1, Fcp5j1] w) (_ : R7 x0 a6P x2 x3 a4K H K), b2c (vi x0) (Value.pointer (some ⟨g5, 0, none⟩)) w R E := by
  intro a6P a4K a9T Fcp1j1 a9U Fcp5j1 H w c0Z c1a I h
  unfold b2c
  intro _
  unfold R7 at h
  refine c7 (l1 Tryd.isAgg49 (I.bring 4) rfl) ?_
  refine X8 (e := 3) (c := C9) (xs := [x0]) I (a5D _) rfl rfl a2w a2x (nb rfl) fun bj bk bl ae y bm => ?_
  obtain ⟨af, h⟩ := h
  refine a8k (s := a9U) (xs := a4K) (y.bring 7) c1a (ae.srcO ((y.bring 7).bring 1)) af fun z ag bn ah ai bo => ?_
  refine o8 ((ai.bring 1).drop.bring 5) Tryd.sizeOf49 (vs := [(vs z)]) fun bp aj bq => ?_
  exact hR _ H _ _ (((((((aj.bring 1).bring 1).bring 5).bring 5).bring 5).bring 6).bring 6) ⟨(Sl.mk none 0 0), a6P, (Sl.mk none 0 0), (a4K ++ [x0]), a9T, Fcp1j1, z, ag, rfl, rfl, c0Z, ah, h⟩
 refine p8 fun j1 hx1 => ?_
 refine c7 (l1 Tryd.isAgg63 (i.bring 2) rfl) ?_
 obtain ⟨ak, al, d, j, h⟩ := h
 obtain ⟨br, bs, am, j⟩ := j
 refine c5 (a9v am _ _ _ _ ak al) ?_
 refine c7 (ld1 (v := (vs d)) Tryd.isAgg49 (i.atH j)) ?_
 refine c5 (b0V _ _ _) ?_
 obtain ⟨m, f, an, ao⟩ := h
 refine D1 (J := fun n l w => ∃ (s : Int × (List Bool) × (List Int)) (H : Hp) (a6Q : Sl) (Fcp1l2 : Frag) (a6R : Sl) (Fcp5l2 : Frag) , n = f s ∧ l = (match s with | (U9, X7, a0r) => [(vi U9)]) ∧ (match s with | (U9, X7, a0r) => RowL 4 1 a3K a6Q X7 Fcp1l2) ∧ (match s with | (U9, X7, a0r) => RowL 3 1 C9 a6R a0r Fcp5l2) ∧ (match s with | (U9, X7, a0r) => Inv w0 ps0 H0 H [bx g1 65 [(vs a6Q)], bx g2 63 [(vs x2)], bx g3 30 (j6 x3), bx g4 66 [(Value.func (.func 16) #[] #[(Value.pointer (some ⟨g1, 0, none⟩)), (Value.pointer (some ⟨g2, 0, none⟩)), (Value.pointer (some ⟨g3, 0, none⟩)), (Value.pointer (some ⟨g4, 0, none⟩)), (Value.pointer (some ⟨g5, 0, none⟩))])], bx g5 49 [(vs a6R)], Fcp1l2, Fcp5l2] w) ∧ m s H) ⟨_, (0, (x1_.set (x0 : Int).toNat true), x5_), H, sx1_, ac, sx5_, Fx5_, rfl, rfl, ad, hx5_, (((((((i.bring 6).bring 1).bring 6).bring 6).bring 6).bring 6).bring 6), an⟩ ?_
 rintro bt bu w next2 ⟨⟨U9, X7, a0r⟩, H, a6Q, Fcp1l2, a6R, Fcp5l2, rfl, o, a5Q, a9V, I, ap⟩ hn2
 dsimp only at o I a5Q a9V
 simp only [List.map_cons, List.map_nil, List.cons.injEq, and_true] at o
 have e18 := o
 simp only [e18]
 obtain ⟨n2, hm2, h⟩ : ∃ n2 : (Int × (List Bool) × (List Int)) → Hp → Prop, (∀ s' H', n2 s' H' → m s' H' ∧ f s' < f (U9, X7, a0r)) ∧ R8 x0 d (d.n : Int) x2 x3 U9 X7 a0r H n2 K := ⟨_, fun _ _ h => h, ao (U9, X7, a0r) H (fun s' H' => m s' H' ∧ f s' < f (U9, X7, a0r)) ap (fun _ _ a b => ⟨a, b⟩)⟩
 unfold b5C
 unfold R8 at h
 refine c5 (v8 _ _ _ _ _ _) ?_
 refine d6 h (fun _ h => ?_) (fun _ h => ?_)
 ·have hj3 : ∀ (a6N : (List Bool)) (a6O : (List Int)) (a9W : Sl) (Fcp1j3 : Frag) (a9X : Sl) (Fcp5j3 : Frag) (H : Hp) (w : World) (_ : RowL 4 1 a3K a9W a6N Fcp1j3) (_ : RowL 3 1 C9 a9X a6O Fcp5j3) (_ : Inv w0 ps0 H0 H [bx g1 65 [(vs a9W)], bx g2 63 [(vs x2)], bx g3 30 (j6 x3), bx g4 66 [(Value.func (.func 16) #[] #[(Value.pointer (some ⟨g1, 0, none⟩)), (Value.pointer (some ⟨g2, 0, none⟩)), (Value.pointer (some ⟨g3, 0, none⟩)), (Value.pointer (some ⟨g4, 0, none⟩)), (Value.pointer (some ⟨g5, 0, none⟩))])], bx g5 49 [(vs a9X)], Fcp1j3, Fcp5j3] w) (_ : G6 x0 d (d.n : Int) U9 a6N x2 x3 a6O H n2 K), b2d (vi x0) (Value.pointer (some ⟨g1, 0, none⟩)) (Value.pointer (some ⟨g3, 0, none⟩)) (Value.pointer (some ⟨g4, 0, none⟩)) (Value.pointer (some ⟨g5, 0, none⟩)) (vs d) (vi (d.n : Int)) (vi U9) w next2 R E := by
   intro a6N a6O a9W Fcp1j3 a9X Fcp5j3 H w c1b c1c I h
   unfold b2d
   intro _
   unfold G6 at h
   refine c5 (s6 _ _ _ _ _ _) ?_
   exact hn2 _ _ _ (hm2 _ _ h).2 ⟨((IntKind.wrap .i64 (U9 + 1)), a6N, a6O), H, a9W, Fcp1j3, a9X, Fcp5j3, rfl, rfl, c1b, c1c, (((((((I.bring 6).bring 6).bring 6).bring 6).bring 6).bring 6).bring 6), (hm2 _ _ h).1⟩
  refine p8 fun j3 hx3 => ?_
  obtain ⟨aq, ar, au, p, h⟩ := h
  obtain ⟨bv, bw, av, p⟩ := p
  refine c5 (a0i av _ _ _ _ aq ar) ?_
  refine c7 (ld1 (v := (vi au)) Tryd.isAgg3 (I.atH p)) ?_
  refine c5 M8 ?_
  refine c7 (l1 Tryd.isAgg28 (I.bring 2) rfl) ?_
  obtain ⟨aw, ax, ay, q, h⟩ := h
  obtain ⟨bz, ca, az, q⟩ := q
  refine c5 (a0X az _ _ _ _ aw ax) ?_
  refine c5 a5j ?_
  refine c7 (ld1 (v := (vi ay.fTo)) Tryd.isAgg3 ((I.atH q).sub (k := 1) (n := 1) (nb rfl))) ?_
  refine c7 (l1 Tryd.isAgg65 I rfl) ?_
  obtain ⟨aa, ba, r, h⟩ := h
  obtain ⟨cb, cc, ab, cd⟩ := a5Q.addr r
  refine c5 (a9u ab _ _ _ _ aa (a5Q.lt aa r)) ?_
  refine c7 (ld1 (v := (Value.bool ba)) Tryd.isAgg4 (a5Q.atW (I.bring 5) ab r)) ?_
  refine c5 (N6 _) ?_
  refine o5 h (fun _ h => ?_) (fun _ h => ?_)
  ·refine c7 (l1 Tryd.isAgg66 (I.bring 3) rfl) ?_
   refine a2u (cap := [(Value.pointer (some ⟨g1, 0, none⟩)), (Value.pointer (some ⟨g2, 0, none⟩)), (Value.pointer (some ⟨g3, 0, none⟩)), (Value.pointer (some ⟨g4, 0, none⟩)), (Value.pointer (some ⟨g5, 0, none⟩))]) Tryd.call16 (h g1 g2 g3 g4 g5 a6Q Fcp1l2 a6R Fcp5l2 a5Q a9V) (((((((I.bring 6).bring 5).bring 5).bring 5).bring 5).bring 6).bring 6) ?_
   rintro _ bb _ ce bc _ _ ⟨cf, y0__106, cg, y1__106, sy0__106, Fy0__106, sy1__106, Fy1__106, rfl, rfl, hy0__106, hy1__106, h⟩
   exact hx3 _ _ (hj3 y0__106 y1__106 sy0__106 Fy0__106 sy1__106 Fy1__106 bb _ hy0__106 hy1__106 (((((((bc.bring 6).bring 2).bring 6).bring 6).bring 6).bring 6).bring 6) h)
  ·exact hx3 _ _ (hj3 X7 a0r a6Q Fcp1l2 a6R Fcp5l2 H _ a5Q a9V (((((((I.bring 6).bring 6).bring 6).bring 6).bring 6).bring 6).bring 6) h)
 ·exact hx1 _ _ (hj1 X7 a0r a6Q Fcp1l2 a6R Fcp5l2 H _ a5Q a9V (((((((I.bring 6).bring 6).bring 6).bring 6).bring 6).bring 6).bring 6) h)
def N8 (a0U : (List Int)) (a1r : Int) (a1H : Int) (H : Hp) (n1 : ((List Int) × Int × Int) → Hp → Prop) (K : (List Int) → Hp → Prop) : Prop :=
 (a1r < a1H →
 (0 : Int) ≤ a1H ∧ ∃ a : Int, (a0U)[(a1H : Int).toNat]? = some a ∧
 (0 : Int) ≤ a1r ∧ ∃ b : Int, (a0U)[(a1r : Int).toNat]? = some b ∧
 (0 : Int) ≤ a1r ∧ ∃ c : Int, (a0U)[(a1r : Int).toNat]? = some c ∧
 (0 : Int) ≤ a1H ∧ ∃ d : Int, (a0U.set (a1r : Int).toNat a)[(a1H : Int).toNat]? = some d ∧
 n1 (((a0U.set (a1r : Int).toNat a).set (a1H : Int).toNat b), (IntKind.wrap .i64 (a1r + 1)), (IntKind.wrap .i64 (a1H - 1))) H) ∧
 (¬ (a1r < a1H) →
 K a0U H)
def a0s (x0 : (List Int)) (H : Hp) (K : (List Int) → Hp → Prop) : Prop :=
 TL ((x0, 0, (IntKind.wrap .i64 ((x0.length : Int) - 1))) : (List Int) × Int × Int) H fun (s : (List Int) × Int × Int) H n1 => N8 s.1 s.2.1 s.2.2 H n1 K
theorem a5R (x0 : (List Int)) {H : Hp} {K : (List Int) → Hp → Prop} (h : a0s x0 H K) : a0m x0 H K := by
 intro sx0 Fx0 hx0
 refine Ct.of fun w0 w ps0 H0 R E I hR => b9J ?_
 unfold a0s at h
 unfold F17
 refine c5 (a2R Tryd.underlying49 hx0) ?_
 refine c5 (a5L _ _ _ _ _ _) ?_
 obtain ⟨d, c, ac, ad⟩ := h
 refine D1 (J := fun n l w => ∃ (s : (List Int) × Int × Int) (H : Hp) (Fs0l1 : Frag) , n = c s ∧ l = (match s with | (a0U, a1r, a1H) => [(vi a1r), (vi a1H)]) ∧ (match s with | (a0U, a1r, a1H) => RowL 3 1 C9 sx0 a0U Fs0l1) ∧ (match s with | (a0U, a1r, a1H) => Inv w0 ps0 H0 H [Fs0l1] w) ∧ d s H) ⟨_, (x0, 0, (IntKind.wrap .i64 ((x0.length : Int) - 1))), H, Fx0, rfl, rfl, hx0, I, ac⟩ ?_
 rintro aj ak w next1 ⟨⟨a0U, a1r, a1H⟩, H, Fs0l1, rfl, e, a4c, I, ae⟩ hn1
 dsimp only at e I a4c
 simp only [List.map_cons, List.map_nil, List.cons.injEq, and_true] at e
 obtain ⟨e2, e3⟩ := e
 simp only [e2, e3]
 obtain ⟨n1, hm1, h⟩ : ∃ n1 : ((List Int) × Int × Int) → Hp → Prop, (∀ s' H', n1 s' H' → d s' H' ∧ c s' < c (a0U, a1r, a1H)) ∧ N8 a0U a1r a1H H n1 K := ⟨_, fun _ _ h => h, ad (a0U, a1r, a1H) H (fun s' H' => d s' H' ∧ c s' < c (a0U, a1r, a1H)) ae (fun _ _ a b => ⟨a, b⟩)⟩
 unfold b5D
 unfold N8 at h
 refine c5 (v8 _ _ _ _ _ _) ?_
 refine d6 h (fun _ h => ?_) (fun _ h => ?_)
 ·refine L5 I fun al f => ?_
  obtain ⟨q, g, i, h⟩ := h
  obtain ⟨am, an, r, ao⟩ := a4c.addr i
  refine d7 (a0i r _ _ _ _ q (a4c.lt q i)) ?_
  obtain ⟨t, j, k, h⟩ := h
  obtain ⟨ap, aq, u, ar⟩ := a4c.addr k
  refine d7 (a0i u _ _ _ _ t (a4c.lt t k)) ?_
  refine o4 (ld1 (v := (vi g)) Tryd.isAgg3 (a4c.atW f r i)) ?_
  refine o4 (ld1 (v := (vi j)) Tryd.isAgg3 (a4c.atW f u k)) ?_
  obtain ⟨y, au, m, h⟩ := h
  obtain ⟨av, aw, z, ax⟩ := a4c.addr m
  refine d7 (a0i z _ _ _ _ y (a4c.lt y m)) ?_
  refine a5B (x := g) f a4c z (List.getElem?_eq_some_iff.1 m).1 Tryd.sizeOf3 rfl fun ay az o af ba => ?_
  obtain ⟨aa, bb, p, h⟩ := h
  obtain ⟨bc, bd, ab, be⟩ := o.addr p
  refine d7 (a0i ab _ _ _ _ aa (o.lt aa p)) ?_
  refine a5B (x := j) af o ab (List.getElem?_eq_some_iff.1 p).1 Tryd.sizeOf3 rfl fun ag bf ah ai bg => ?_
  refine c5 (s6 _ _ _ _ _ _) ?_
  refine c5 (a5L _ _ _ _ _ _) ?_
  exact hn1 _ _ _ (hm1 _ _ h).2 ⟨(((a0U.set (a1r : Int).toNat g).set (a1H : Int).toNat j), (IntKind.wrap .i64 (a1r + 1)), (IntKind.wrap .i64 (a1H - 1))), H, ag, rfl, rfl, ah, ai, (hm1 _ _ h).1⟩
 ·exact hR _ H _ _ I ⟨a0U, Fs0l1, rfl, rfl, a4c, h⟩
def W3 (x0 : d3) (f : (List c6)) (x1 : m3) (H : Hp) (K : i5 → Bool → Hp → Prop) : Prop :=
 (x1.d4 = 1 →
 K (i5.mk (-1) x1.p6) true H) ∧
 (¬ (x1.d4 = 1) →
 ∃ a : m3, ((decide (x1.d4 = 5)) = true → (0 : Int) ≤ 0 ∧ (0 : Int) < x1.z7.n ∧ EltH H x1.z7 0 4 (i6 a)) ∧
 (((decide (x1.d4 = 5)) && (decide (a.d4 = 1))) = true →
 (0 : Int) ≤ 0 ∧ (0 : Int) < x1.z7.n ∧ ∃ b : m3, EltH H x1.z7 0 4 (i6 b) ∧
 K (i5.mk (-1) (IntKind.wrap .i64 (0 - b.p6))) true H) ∧
 (((decide (x1.d4 = 5)) && (decide (a.d4 = 1))) = false →
 (x1.d4 = 2 →
 ∃ c : List (ByteArray × Int), MapH H (fun s : ByteArray => Value.string s) (fun n : Int => Value.int .i64 n) x0.fvars c ∧
 K (i5.mk ((lk x1.g7 c).getD 0) 0) true H) ∧
 (¬ (x1.d4 = 2) →
 J0 H (fun d e =>
 K d false e))))
theorem a5a (x0 : d3) (j : (List c6)) (x1 : m3) {H : Hp} {K : i5 → Bool → Hp → Prop} (h : W3 x0 j x1 H K) : O3 x0 j x1 H K := by
 intro g0 ad ae af
 refine Ct.of fun w0 w ps0 H0 R E I hR => c0l ?_
 unfold W3 at h
 unfold F45
 refine A5 I (cs := (i6 x1)) rfl fun ag ah s ai => ?_
 refine o3 s Tryd.zeroValue44 (cs := [(vi 0), (vi 0)]) rfl fun aj ak c al => ?_
 refine c5 Q7 ?_
 refine c7 (l1 Tryd.isAgg3 (c.bring 1) rfl) ?_
 refine c5 (f9 _ _ _ _ _ _) ?_
 refine d6 h (fun _ h => ?_) (fun _ h => ?_)
 ·refine c5 a5k ?_
  refine c7 (l1 Tryd.isAgg2 (c.bring 1) rfl) ?_
  refine c5 (a7X _ _) ?_
  refine o8 c Tryd.sizeOf44 (vs := [(vi (-1)), (vi x1.p6)]) fun am l an => ?_
  refine O9 Tryd.isAgg44 Tryd.sizeOf44 rfl l ?_
  exact hR _ H _ _ ((l.drop.drop.bring 1).bring 1) ⟨(i5.mk (-1) x1.p6), true, rfl, rfl, h⟩
 ·refine c5 Q7 ?_
  refine c7 (l1 Tryd.isAgg3 (c.bring 1) rfl) ?_
  refine c5 (f9 _ _ _ _ _ _) ?_
  refine c5 (Pu.g fun hb => by have a := hb; with_reducible exact a0S) ?_
  refine c7 (Ld.g fun hb => by have a := hb; simp only [f8 a]; exact (l1 Tryd.isAgg23 (c.bring 1) rfl)) ?_
  obtain ⟨e, b, h⟩ := h
  obtain ⟨ao, ap, b⟩ := a8E b
  refine c5 (Pu.g fun hb => by have a := hb; simp only [f8 a]; with_reducible exact (a0Y (b hb).2.2.1 _ _ _ _ (b hb).1 (b hb).2.1)) ?_
  refine c5 (Pu.g fun hb => by have a := hb; simp only [f8 a]; with_reducible exact Q7) ?_
  refine c7 (Ld.g fun hb => by have a := hb; simp only [f8 a]; exact (ld1 (v := (vi e.d4)) Tryd.isAgg3 ((c.atH (b hb).2.2.2).sub (k := 0) (n := 1) (nb rfl)))) ?_
  refine c5 (Pu.g fun hb => by have a := hb; simp only [f8 a]; with_reducible exact (f9 _ _ _ _ _ _)) ?_
  refine c5 (B9 _ _) ?_
  refine o5 h (fun _ h => ?_) (fun _ h => ?_)
  ·refine c5 a0S ?_
   refine c7 (l1 Tryd.isAgg23 (c.bring 1) rfl) ?_
   obtain ⟨t, u, f, i, h⟩ := h
   obtain ⟨aq, ar, y, i⟩ := i
   refine c5 (a0Y y _ _ _ _ t u) ?_
   refine c5 a5k ?_
   refine c7 (ld1 (v := (vi f.p6)) Tryd.isAgg2 ((c.atH i).sub (k := 1) (n := 1) (nb rfl))) ?_
   refine c5 (b9j _ _) ?_
   refine c5 (a7X _ _) ?_
   refine o8 c Tryd.sizeOf44 (vs := [(vi (-1)), (vi (IntKind.wrap .i64 (0 - f.p6)))]) fun au m av => ?_
   refine O9 Tryd.isAgg44 Tryd.sizeOf44 rfl m ?_
   exact hR _ H _ _ ((m.drop.drop.bring 1).bring 1) ⟨(i5.mk (-1) (IntKind.wrap .i64 (0 - f.p6))), true, rfl, rfl, h⟩
  ·refine c5 Q7 ?_
   refine c7 (l1 Tryd.isAgg3 (c.bring 1) rfl) ?_
   refine c5 (f9 _ _ _ _ _ _) ?_
   refine d6 h (fun _ h => ?_) (fun _ h => ?_)
   ·refine L5 c fun aw d => ?_
    refine d7 (p5 _) ?_
    refine d7 a7k ?_
    refine d7 a2X ?_
    refine o4 (l1 Tryd.isAgg57 (d.bring 2) rfl) ?_
    refine o4 (l1 Tryd.isAgg9 (d.bring 1) rfl) ?_
    obtain ⟨o, aa, h⟩ := h
    refine a7i (keyS Tryd.underlying9) Tryd.underlying57 (z := 0) Tryd.zeroValue3 d aa x1.g7 ?_
    refine d7 (a3z _) ?_
    refine o8 d Tryd.sizeOf44 (vs := [(vi ((lk x1.g7 o).getD 0)), (vi 0)]) fun ax p ay => ?_
    refine O9 Tryd.isAgg44 Tryd.sizeOf44 rfl p ?_
    exact hR _ H _ _ ((p.drop.drop.bring 1).bring 1) ⟨(i5.mk ((lk x1.g7 o).getD 0) 0), true, rfl, rfl, h⟩
   ·refine f7 Tryd.call39 h c ?_
    rintro _ ab _ az ac _ _ ⟨q, rfl, rfl, h⟩
    refine o8 ac Tryd.sizeOf44 (vs := (j9 q)) fun ba r bb => ?_
    refine O9 Tryd.isAgg44 Tryd.sizeOf44 rfl r ?_
    exact hR _ ab _ _ ((r.drop.drop.bring 1).bring 1) ⟨q, false, rfl, rfl, h⟩
def a4l (x0 : Int) (H : Hp) (K : Int → Hp → Prop) : Prop :=
 (0 : Int) ≤ x0 ∧ (x0 : Int) < 11 ∧
 K (([0, 0, 0, 9, 10, 3, 4, 5, 6, 7, 8] : List Int).getD (x0 : Int).toNat 0) H
theorem a7Y (x0 : Int) {H : Hp} {K : Int → Hp → Prop} (h : a4l x0 H K) : a2e x0 H K := by
 refine Ct.of fun w0 w ps0 H0 R E I hR => c0s ?_
 unfold a4l at h
 unfold F52
 refine c5 (a4G _ _ _ _ _ _ _ _) ?_
 obtain ⟨a, b, h⟩ := h
 refine c5 (b4j _ _ _ _ _ _ _ _ _ _ _ _ _ a b) ?_
 exact hR _ H _ _ I ⟨(([0, 0, 0, 9, 10, 3, 4, 5, 6, 7, 8] : List Int).getD (x0 : Int).toNat 0), rfl, rfl, h⟩
def Y5 (x0 : d3) (a : (List c6)) (x1 : Int) (H : Hp) (K : Int → d3 → (List c6) → Hp → Prop) : Prop :=
 K (IntKind.wrap .i64 ((x0.fc.p7.n : Int) + x1)) (d3.mk (m0.mk x0.fc.p7 (if (IntKind.wrap .i64 (x1 + 1)) > x0.fc.r8 then IntKind.wrap .i64 (x1 + 1) else x0.fc.r8) x0.fc.m9 x0.fc.f4 x0.fc.s7 (Sl.mk none 0 0)) x0.fvars x0.farrays) a H
theorem a5t (x0 : d3) (a : (List c6)) (x1 : Int) {H : Hp} {K : Int → d3 → (List c6) → Hp → Prop} (h : Y5 x0 a x1 H K) : Y2 x0 a x1 H K := by
 intro g0 c d e
 refine Ct.of fun w0 w ps0 H0 R E I hR => c0t ?_
 unfold Y5 at h
 unfold F53
 refine c5 (p5 _) ?_
 refine c5 E7 ?_
 refine c5 a0P ?_
 refine c7 (l1 Tryd.isAgg3 I rfl) ?_
 refine c5 (s6 _ _ _ _ _ _) ?_
 refine c5 (b5d _ _ _ _ _) ?_
 refine c5 (p5 _) ?_
 refine c5 E7 ?_
 refine c5 a0P ?_
 refine E5 I Tryd.sizeOf3 fun f b g => ?_
 refine c5 (p5 _) ?_
 refine c5 E7 ?_
 refine c5 a5m ?_
 refine c7 (l1 Tryd.isAgg26 b rfl) ?_
 refine c5 (a3L _ _ _) ?_
 refine c5 (s6 _ _ _ _ _ _) ?_
 exact hR _ H _ _ ((b.bring 1).bring 1) ⟨(IntKind.wrap .i64 ((x0.fc.p7.n : Int) + x1)), (d3.mk (m0.mk x0.fc.p7 (if (IntKind.wrap .i64 (x1 + 1)) > x0.fc.r8 then IntKind.wrap .i64 (x1 + 1) else x0.fc.r8) x0.fc.m9 x0.fc.f4 x0.fc.s7 (Sl.mk none 0 0)) x0.fvars x0.farrays), a, c, d, rfl, rfl, e, h⟩
def U6 (x0 : d3) (a : (List c6)) (x1 : i5) (x2 : Int) (H : Hp) (K : Int → Hp → Prop) : Prop :=
 ((x0.fc.p7.n : Int) ≤ x1.s8 →
 K (IntKind.wrap .i64 (x2 + 1)) H) ∧
 (¬ ((x0.fc.p7.n : Int) ≤ x1.s8) →
 K x2 H)
theorem a4L (x0 : d3) (b : (List c6)) (x1 : i5) (x2 : Int) {H : Hp} {K : Int → Hp → Prop} (h : U6 x0 b x1 x2 H K) : U2 x0 b x1 x2 H K := by
 intro g0 d e f
 refine Ct.of fun w0 w ps0 H0 R E I hR => c0o ?_
 unfold U6 at h
 unfold F48
 refine A5 I (cs := (j9 x1)) rfl fun g i c j => ?_
 refine L5 c fun k a => ?_
 refine d7 a5n ?_
 refine d7 (p5 _) ?_
 refine d7 E7 ?_
 refine d7 a5m ?_
 refine o4 (l1 Tryd.isAgg3 a rfl) ?_
 refine o4 (l1 Tryd.isAgg26 (a.bring 1) rfl) ?_
 refine d7 (a3L _ _ _) ?_
 refine d7 (a3Q _ _ _ _ _ _) ?_
 refine d6 h (fun _ h => ?_) (fun _ h => ?_)
 ·refine c5 (s6 _ _ _ _ _ _) ?_
  exact hR _ H _ _ ((a.drop.bring 1).bring 1) ⟨(IntKind.wrap .i64 (x2 + 1)), rfl, rfl, h⟩
 ·exact hR _ H _ _ ((a.drop.bring 1).bring 1) ⟨x2, rfl, rfl, h⟩
def a0t (x0 : d3) (g : (List c6)) (x1 : Sl) (x2 : Int) (x3 : Int) (H : Hp) (K : i5 → i5 → Int → d3 → (List c6) → Hp → Prop) : Prop :=
 (0 : Int) ≤ 0 ∧ (0 : Int) < x1.n ∧ ∃ a : m3, EltH H x1 0 4 (i6 a) ∧
 E9 (c8 x0) g a x2 x3 H (fun b i c d e =>
 (0 : Int) ≤ 1 ∧ (1 : Int) < x1.n ∧ ∃ f : m3, EltH e x1 1 4 (i6 f) ∧
 U2 (c8 c) d b x3 e (fun j k =>
 E9 (c8 c) d f i j k (fun l m o p q =>
 K b l m (c8 o) p q)))
theorem a5S (x0 : d3) (k : (List c6)) (x1 : Sl) (x2 : Int) (x3 : Int) {H : Hp} {K : i5 → i5 → Int → d3 → (List c6) → Hp → Prop} (h : a0t x0 k x1 x2 x3 H K) : L9 x0 k x1 x2 x3 H K := by
 intro g0 o p q
 refine Ct.of fun w0 w ps0 H0 R E I hR => b9W ?_
 unfold a0t at h
 unfold F30
 refine o3 I Tryd.zeroValue44 (cs := [(vi 0), (vi 0)]) rfl fun r aw s ax => ?_
 refine o3 s Tryd.zeroValue44 (cs := [(vi 0), (vi 0)]) rfl fun t ay l az => ?_
 obtain ⟨u, v, y, e, h⟩ := h
 obtain ⟨ba, bb, z, e⟩ := e
 refine c5 (a0Y z _ _ _ _ u v) ?_
 refine c7 (ldA (vs := (i6 y)) Tryd.isAgg25 Tryd.sizeOf25 rfl (l.atH e)) ?_
 refine f7 Tryd.call47 (h g0 o p q) ((l.bring 3).bring 3) ?_
 rintro _ _ _ bc aa _ _ ⟨c, ab, ac, bd, f, g, rfl, rfl, m, h⟩
 refine c5 (j7 _ _ _ rfl) ?_
 refine c5 (j7 _ _ (vi ab) rfl) ?_
 refine o8 (aa.bring 3) Tryd.sizeOf44 (vs := (j9 c)) fun be ad bf => ?_
 refine L5 ad fun bg a => ?_
 obtain ⟨ae, af, ag, b, h⟩ := h
 obtain ⟨bh, bi, ah, b⟩ := b
 refine d7 (a0Y ah _ _ _ _ ae af) ?_
 refine o4 (ldA (vs := (i6 ag)) Tryd.isAgg25 Tryd.sizeOf25 rfl (a.atH b)) ?_
 refine o4 (lW Tryd.isAgg44 Tryd.sizeOf44 rfl a) ?_
 refine f7 Tryd.call48 (h g0 f g m) ((a.bring 2).bring 2) ?_
 rintro _ _ _ bj ai _ aj ⟨bk, rfl, rfl, h⟩
 refine ⟨(aj _ (a.a3R b) ((Inv.self (Fi := [bx g0 59 (m1 ac f), g]) (Fr := [bx r 44 (j9 c), bx t 44 [(vi 0), (vi 0)]]) ((a.bring 2).bring 2)).b3G b)), ?_⟩
 refine f7 Tryd.call47 (h g0 f g m) ((ai.bring 1).bring 1) ?_
 rintro _ ak _ bl al _ _ ⟨i, n, am, an, ao, ap, rfl, rfl, aq, h⟩
 refine d7 (j7 _ _ _ rfl) ?_
 refine d7 (j7 _ _ (vi n) rfl) ?_
 refine o8 (al.bring 3) Tryd.sizeOf44 (vs := (j9 i)) fun bm ar bn => ?_
 refine L5 ar fun bo d => ?_
 refine o4 (lW Tryd.isAgg44 Tryd.sizeOf44 rfl (d.bring 3)) ?_
 refine o4 (lW Tryd.isAgg44 Tryd.sizeOf44 rfl d) ?_
 refine o8 (d.bring 3) Tryd.sizeOf44 (vs := (j9 c)) fun bp au av => ?_
 refine ⟨(av _ (Inv.b1A (d.bring 3))), ?_⟩
 refine o8 (au.bring 1) Tryd.sizeOf44 (vs := (j9 i)) fun bq j br => ?_
 refine O9 Tryd.isAgg44 Tryd.sizeOf44 rfl (j.bring 1) ?_
 refine O9 Tryd.isAgg44 Tryd.sizeOf44 rfl j ?_
 exact hR _ ak _ _ ((j.drop.drop.bring 1).bring 1) ⟨c, i, n, (c8 am), an, ao, ap, rfl, rfl, aq, h⟩
def a1I (x0 : l0) (H : Hp) (K : d2 → Hp → Prop) : Prop :=
 K (d2.A7 (H9.mk x0)) H
theorem a7t (x0 : l0) {H : Hp} {K : d2 → Hp → Prop} (h : a1I x0 H K) : a3Z x0 H K := by
 refine Ct.of fun w0 w ps0 H0 R E I hR => c0z ?_
 unfold a1I at h
 unfold F59
 refine A5 I (cs := (m5 x0)) rfl fun b c a d => ?_
 refine c7 (lW Tryd.isAgg39 Tryd.sizeOf39 rfl a) ?_
 refine c5 (b1S _ _ _ _ _ _ _ _ _ _ _ _ _ _) ?_
 refine c5 (b0w (H9.mk x0)) ?_
 exact hR _ H _ _ a.drop ⟨(d2.A7 (H9.mk x0)), rfl, rfl, h⟩
def y5 (c2K : Sl) (b0A : Int) (c2L : Sl) (b7K : Int) (b4u : Int) (H : Hp) (n4 : (Int × Int) → Hp → Prop) (K : Sl → Hp → Prop) : Prop :=
 n4 (b0A, (IntKind.wrap .i64 (b4u + 1))) H
def y6 (a4d : (List d2)) (H : Hp) (K : Sl → Hp → Prop) : Prop :=
 ∀ (a4D : Sl) (a : Hp), Hle H a → SlH a 1 m8 a4D a4d → a4D.n ≤ a4D.c →
 K a4D a
def y7 (b7L : Sl) (b7M : Int) (a1J : (List d2)) (a1f : Int) (H : Hp) (n3 : ((List d2) × Int) → Hp → Prop) (K : Sl → Hp → Prop) : Prop :=
 (a1f < b7M →
 (0 : Int) ≤ a1f ∧ (a1f : Int) < b7L.n ∧ ∃ b : Sl, EltH H b7L a1f 1 [(vs b)] ∧
 ∃ a : List d2, SlH H 1 m8 b a ∧ (a1J.length + a.length) * 17 ≤ 140737488355328 ∧
 n3 ((a1J ++ a), (IntKind.wrap .i64 (a1f + 1))) H) ∧
 (¬ (a1f < b7M) →
 y6 a1J H K)
def y8 (a2h : Sl) (a5b : Int) (H : Hp) (K : Sl → Hp → Prop) : Prop :=
 G4 a5b H (fun a b =>
 TL ((a, 0) : (List d2) × Int) b fun (s : (List d2) × Int) H n3 => y7 a2h (a2h.n : Int) s.1 s.2 H n3 K)
def C2 (b0B : Sl) (b6R : Sl) (b4v : Int) (a6C : Int) (a3d : Int) (H : Hp) (n4 : (Int × Int) → Hp → Prop) (K : Sl → Hp → Prop) : Prop :=
 (a3d < b4v →
 (0 : Int) ≤ a3d ∧ (a3d : Int) < b6R.n ∧ ∃ a : Sl, EltH H b6R a3d 1 [(vs a)] ∧
 ((IntKind.wrap .i64 (a6C + (a.n : Int))) < 0 →
 False) ∧
 (¬ ((IntKind.wrap .i64 (a6C + (a.n : Int))) < 0) →
 y5 b0B (IntKind.wrap .i64 (a6C + (a.n : Int))) b6R b4v a3d H n4 K)) ∧
 (¬ (a3d < b4v) →
 y8 b0B a6C H K)
def D2 (x0 : Sl) (H : Hp) (K : Sl → Hp → Prop) : Prop :=
 TL ((0, 0) : Int × Int) H fun (s : Int × Int) H n4 => C2 x0 x0 (x0.n : Int) s.1 s.2 H n4 K
theorem a0e (x0 : Sl) {H : Hp} {K : Sl → Hp → Prop} (h : D2 x0 H K) : u7 x0 H K := by
 refine Ct.of fun w0 w ps0 H0 R E I hR => c0v ?_
 unfold D2 at h
 unfold F55
 have hj1 : ∀ (a5b : Int) (H : Hp) (w : World) (_ : Inv w0 ps0 H0 H [] w) (_ : y8 x0 a5b H K), b2u (vs x0) (vi a5b) w R E := by
  intro a5b H w I h
  unfold b2u
  intro _
  unfold y8 at h
  refine f7 Tryd.call62 h I ?_
  rintro _ m _ au o _ _ ⟨p, q, r, rfl, rfl, t, h⟩
  have hj2 : ∀ (a4d : (List d2)) (a4D : Sl) (Fs6j2 : Frag) (H : Hp) (w : World) (_ : RowL 126 1 m8 a4D a4d Fs6j2) (_ : Inv w0 ps0 H0 H [Fs6j2] w) (_ : y6 a4d H K), b2t (vs a4D) w R E := by
   intro a4d a4D Fs6j2 H w b4w I h
   unfold b2t
   intro _
   unfold y6 at h
   obtain ⟨j, u, y, z, aa⟩ := Inv.freezeC I b4w (by decide)
   replace h := h a4D j y z aa
   exact hR _ j _ _ u ⟨a4D, rfl, rfl, h⟩
  refine p8 fun j2 hx2 => ?_
  refine c5 (a9S _ _ _) ?_
  obtain ⟨d, c, ab, ac⟩ := h
  refine D1 (J := fun n l w => ∃ (s : (List d2) × Int) (H : Hp) (a9Y : Sl) (Fs6l3 : Frag) , n = c s ∧ l = (match s with | (a1J, a1f) => [(vs a9Y), (vi a1f)]) ∧ (match s with | (a1J, a1f) => RowL 126 1 m8 a9Y a1J Fs6l3) ∧ (match s with | (a1J, a1f) => Inv w0 ps0 H0 H [Fs6l3] w) ∧ d s H) ⟨_, (p, 0), m, q, r, rfl, rfl, t, o, ab⟩ ?_
  rintro av aw w next3 ⟨⟨a1J, a1f⟩, H, a9Y, Fs6l3, rfl, e, b4x, I, ad⟩ hn3
  dsimp only at e I b4x
  simp only [List.map_cons, List.map_nil, List.cons.injEq, and_true] at e
  obtain ⟨e6, e27⟩ := e
  simp only [e6, e27]
  obtain ⟨n3, hm3, h⟩ : ∃ n3 : ((List d2) × Int) → Hp → Prop, (∀ s' H', n3 s' H' → d s' H' ∧ c s' < c (a1J, a1f)) ∧ y7 x0 (x0.n : Int) a1J a1f H n3 K := ⟨_, fun _ _ h => h, ac (a1J, a1f) H (fun s' H' => d s' H' ∧ c s' < c (a1J, a1f)) ad (fun _ _ a b => ⟨a, b⟩)⟩
  unfold b5R
  unfold y7 at h
  refine c5 (v8 _ _ _ _ _ _) ?_
  refine d6 h (fun _ h => ?_) (fun _ h => ?_)
  ·obtain ⟨ae, af, ag, f, h⟩ := h
   obtain ⟨ax, ay, ah, f⟩ := f
   refine c5 (b0W ah _ _ _ _ ae af) ?_
   refine c7 (ld1 (v := (vs ag)) Tryd.isAgg123 (I.atH f)) ?_
   obtain ⟨ai, aj, h⟩ := h
   obtain ⟨ak, h⟩ := h
   refine a6J (s := a9Y) (xs := a1J) I b4x (SlH.src I aj E8) ak fun al am az an ao ba => ?_
   refine c5 (s6 _ _ _ _ _ _) ?_
   exact hn3 _ _ _ (hm3 _ _ h).2 ⟨((a1J ++ ai), (IntKind.wrap .i64 (a1f + 1))), H, al, am, rfl, rfl, an, ao, (hm3 _ _ h).1⟩
  ·exact hx2 _ _ (hj2 a1J a9Y Fs6l3 H _ b4x I h)
 refine p8 fun j1 hx1 => ?_
 refine c5 (a9S _ _ _) ?_
 refine a2v (σ := Int × Int) (fun (a6C, a3d) => [(vi a6C), (vi a3d)]) (fun (a6C, a3d) => []) h rfl I ?_
 rintro ⟨a6C, a3d⟩ H bb w next4 n4 g I h hn4
 dsimp only at g I h
 simp only [List.map_cons, List.map_nil, List.cons.injEq, and_true] at g
 obtain ⟨e3, e11⟩ := g
 simp only [e3, e11]
 unfold b5S
 unfold C2 at h
 refine c5 (v8 _ _ _ _ _ _) ?_
 refine d6 h (fun _ h => ?_) (fun _ h => ?_)
 ·have hj5 : ∀ (b0A : Int) (H : Hp) (w : World) (_ : Inv w0 ps0 H0 H [] w) (_ : y5 x0 b0A x0 (x0.n : Int) a3d H n4 K), b2v (vs x0) (vi b0A) (vs x0) (vi (x0.n : Int)) (vi a3d) w next4 R E := by
   intro b0A H w I h
   unfold b2v
   intro _
   unfold y5 at h
   refine c5 (s6 _ _ _ _ _ _) ?_
   exact hn4 (b0A, (IntKind.wrap .i64 (a3d + 1))) _ _ h I
  refine p8 fun j5 hx5 => ?_
  obtain ⟨ap, aq, k, i, h⟩ := h
  obtain ⟨bc, bd, ar, i⟩ := i
  refine c5 (b0W ar _ _ _ _ ap aq) ?_
  refine c7 (ld1 (v := (vs k)) Tryd.isAgg123 (I.atH i)) ?_
  refine c5 (a5s _ _ _) ?_
  refine c5 (s6 _ _ _ _ _ _) ?_
  refine c5 (v8 _ _ _ _ _ _) ?_
  refine d6 h (fun _ h => ?_) (fun _ h => ?_)
  ·refine c5 (b5u _) ?_
   exact h.elim
  ·exact hx5 _ _ (hj5 (IntKind.wrap .i64 (a6C + (k.n : Int))) H _ I h)
 ·exact hx1 _ _ (hj1 a6C H _ I h)
def y3 (a8L : Bool) (a : Int) (H : Hp) (K : Int → Hp → Prop) : Prop :=
 (a8L = true →
 K 3 H) ∧
 (a8L = false →
 K 6 H)
def E0 (a8M : Bool) (a : Int) (H : Hp) (K : Int → Hp → Prop) : Prop :=
 (a8M = true →
 K 6 H) ∧
 (a8M = false →
 C0 48 57 a H (fun g b =>
 (g = true →
 K 4 b) ∧
 (g = false →
 (a = 95 →
 y3 (decide (a = 95)) a b K) ∧
 (¬ (a = 95) →
 C0 97 122 a b (fun c i =>
 (c = true →
 y3 c a i K) ∧
 (c = false →
 C0 65 90 a i (fun d j =>
 (d = true →
 y3 d a j K) ∧
 (d = false →
 C0 192 591 a j (fun e k =>
 (e = true →
 y3 e a k K) ∧
 (e = false →
 C0 913 969 a k (fun f l =>
 (f = true →
 y3 f a l K) ∧
 (f = false →
 C0 1040 1103 a l (fun m n =>
 y3 m a n K)))))))))))))
def j8 (a9x : Int) (a7u : Bool) (a : Int) (H : Hp) (K : Int → Hp → Prop) : Prop :=
 (a7u = true →
 K 5 H) ∧
 (a7u = false →
 (a9x = 215 →
 E0 (decide (a9x = 215)) a H K) ∧
 (¬ (a9x = 215) →
 (a9x = 247 →
 E0 (decide (a9x = 247)) a H K) ∧
 (¬ (a9x = 247) →
 E0 (decide (a9x = 930)) a H K)))
def E1 (q8 : Int) (a5T : Bool) (a : Int) (H : Hp) (K : Int → Hp → Prop) : Prop :=
 (a5T = true →
 K 1 H) ∧
 (a5T = false →
 (q8 = 10 →
 K 2 H) ∧
 (¬ (q8 = 10) →
 (q8 = 59 →
 j8 q8 (decide (q8 = 59)) a H K) ∧
 (¬ (q8 = 59) →
 (q8 = 44 →
 j8 q8 (decide (q8 = 44)) a H K) ∧
 (¬ (q8 = 44) →
 (q8 = 123 →
 j8 q8 (decide (q8 = 123)) a H K) ∧
 (¬ (q8 = 123) →
 (q8 = 125 →
 j8 q8 (decide (q8 = 125)) a H K) ∧
 (¬ (q8 = 125) →
 (q8 = 40 →
 j8 q8 (decide (q8 = 40)) a H K) ∧
 (¬ (q8 = 40) →
 (q8 = 41 →
 j8 q8 (decide (q8 = 41)) a H K) ∧
 (¬ (q8 = 41) →
 (q8 = 91 →
 j8 q8 (decide (q8 = 91)) a H K) ∧
 (¬ (q8 = 91) →
 (q8 = 93 →
 j8 q8 (decide (q8 = 93)) a H K) ∧
 (¬ (q8 = 93) →
 (q8 = 61 →
 j8 q8 (decide (q8 = 61)) a H K) ∧
 (¬ (q8 = 61) →
 (q8 = 33 →
 j8 q8 (decide (q8 = 33)) a H K) ∧
 (¬ (q8 = 33) →
 (q8 = 60 →
 j8 q8 (decide (q8 = 60)) a H K) ∧
 (¬ (q8 = 60) →
 (q8 = 62 →
 j8 q8 (decide (q8 = 62)) a H K) ∧
 (¬ (q8 = 62) →
 (q8 = 43 →
 j8 q8 (decide (q8 = 43)) a H K) ∧
 (¬ (q8 = 43) →
 (q8 = 45 →
 j8 q8 (decide (q8 = 45)) a H K) ∧
 (¬ (q8 = 45) →
 (q8 = 42 →
 j8 q8 (decide (q8 = 42)) a H K) ∧
 (¬ (q8 = 42) →
 (q8 = 47 →
 j8 q8 (decide (q8 = 47)) a H K) ∧
 (¬ (q8 = 47) →
 (q8 = 37 →
 j8 q8 (decide (q8 = 37)) a H K) ∧
 (¬ (q8 = 37) →
 (q8 = 38 →
 j8 q8 (decide (q8 = 38)) a H K) ∧
 (¬ (q8 = 38) →
 j8 q8 (decide (q8 = 124)) a H K))))))))))))))))))))
def a2i (x0 : Int) (H : Hp) (K : Int → Hp → Prop) : Prop :=
 (x0 = 32 →
 E1 x0 (decide (x0 = 32)) x0 H K) ∧
 (¬ (x0 = 32) →
 (x0 = 9 →
 E1 x0 (decide (x0 = 9)) x0 H K) ∧
 (¬ (x0 = 9) →
 E1 x0 (decide (x0 = 13)) x0 H K))
theorem a7Z (x0 : Int) {H : Hp} {K : Int → Hp → Prop} (h : a2i x0 H K) : a0D x0 H K := by
 refine Ct.of fun w0 w ps0 H0 R E I hR => c0J ?_
 unfold a2i at h
 unfold F70
 refine A5 I (cs := [(Value.int .i32 x0)]) rfl fun a u b v => ?_
 refine c7 (l1 Tryd.isAgg21 b rfl) ?_
 have hj1 : ∀ (a5T : Bool) (H : Hp) (w : World) (_ : Inv w0 ps0 H0 H [bx a 21 [(Value.int .i32 x0)]] w) (_ : E1 x0 a5T x0 H K), b2G (Value.pointer (some ⟨a, 0, none⟩)) (Value.int .i32 x0) (Value.bool a5T) w R E := by
  intro a5T H w I h
  unfold b2G
  intro _
  unfold E1 at h
  refine o5 h (fun _ h => ?_) (fun _ h => ?_)
  ·exact hR _ H _ _ I.drop ⟨1, rfl, rfl, h⟩
  ·refine c5 (f9 _ _ _ _ _ _) ?_
   refine d6 h (fun _ h => ?_) (fun _ h => ?_)
   ·exact hR _ H _ _ I.drop ⟨2, rfl, rfl, h⟩
   ·have hj2 : ∀ (a7u : Bool) (H : Hp) (w : World) (_ : Inv w0 ps0 H0 H [bx a 21 [(Value.int .i32 x0)]] w) (_ : j8 x0 a7u x0 H K), b2F (Value.pointer (some ⟨a, 0, none⟩)) (Value.int .i32 x0) (Value.bool a7u) w R E := by
     intro a7u H w I h
     unfold b2F
     intro _
     unfold j8 at h
     refine o5 h (fun _ h => ?_) (fun _ h => ?_)
     ·exact hR _ H _ _ I.drop ⟨5, rfl, rfl, h⟩
     ·have hj3 : ∀ (a8M : Bool) (H : Hp) (w : World) (_ : Inv w0 ps0 H0 H [bx a 21 [(Value.int .i32 x0)]] w) (_ : E0 a8M x0 H K), b2E (Value.pointer (some ⟨a, 0, none⟩)) (Value.bool a8M) w R E := by
       intro a8M H w I h
       unfold b2E
       intro _
       unfold E0 at h
       refine o5 h (fun _ h => ?_) (fun _ h => ?_)
       ·exact hR _ H _ _ I.drop ⟨6, rfl, rfl, h⟩
       ·refine c5 (a3y _ _ _) ?_
        refine a2u (cap := [(Value.pointer (some ⟨a, 0, none⟩))]) Tryd.call74 (h a) I ?_
        rintro _ d _ y c _ _ ⟨z, rfl, rfl, h⟩
        refine o5 h (fun _ h => ?_) (fun _ h => ?_)
        ·exact hR _ d _ _ c.drop ⟨4, rfl, rfl, h⟩
        ·have hj4 : ∀ (a8L : Bool) (H : Hp) (w : World) (_ : Inv w0 ps0 H0 H [bx a 21 [(Value.int .i32 x0)]] w) (_ : y3 a8L x0 H K), b2D (Value.bool a8L) w R E := by
          intro a8L H w I h
          unfold b2D
          intro _
          unfold y3 at h
          refine o5 h (fun _ h => ?_) (fun _ h => ?_)
          ·exact hR _ H _ _ I.drop ⟨3, rfl, rfl, h⟩
          ·exact hR _ H _ _ I.drop ⟨6, rfl, rfl, h⟩
         refine p8 fun j4 hx4 => ?_
         refine c7 (l1 Tryd.isAgg21 c rfl) ?_
         refine c5 (f9 _ _ _ _ _ _) ?_
         refine d6 h (fun _ h => ?_) (fun _ h => ?_)
         ·exact hx4 _ _ (hj4 (decide (x0 = 95)) d _ c h)
         ·refine a2u (cap := [(Value.pointer (some ⟨a, 0, none⟩))]) Tryd.call74 (h a) c ?_
          rintro _ j _ aa e _ _ ⟨k, rfl, rfl, h⟩
          refine o5 h (fun _ h => ?_) (fun _ h => ?_)
          ·exact hx4 _ _ (hj4 k j _ e h)
          ·refine a2u (cap := [(Value.pointer (some ⟨a, 0, none⟩))]) Tryd.call74 (h a) e ?_
           rintro _ l _ ab f _ _ ⟨m, rfl, rfl, h⟩
           refine o5 h (fun _ h => ?_) (fun _ h => ?_)
           ·exact hx4 _ _ (hj4 m l _ f h)
           ·refine a2u (cap := [(Value.pointer (some ⟨a, 0, none⟩))]) Tryd.call74 (h a) f ?_
            rintro _ n _ ac g _ _ ⟨o, rfl, rfl, h⟩
            refine o5 h (fun _ h => ?_) (fun _ h => ?_)
            ·exact hx4 _ _ (hj4 o n _ g h)
            ·refine a2u (cap := [(Value.pointer (some ⟨a, 0, none⟩))]) Tryd.call74 (h a) g ?_
             rintro _ p _ ad i _ _ ⟨q, rfl, rfl, h⟩
             refine o5 h (fun _ h => ?_) (fun _ h => ?_)
             ·exact hx4 _ _ (hj4 q p _ i h)
             ·refine a2u (cap := [(Value.pointer (some ⟨a, 0, none⟩))]) Tryd.call74 (h a) i ?_
              rintro _ r _ ae s _ _ ⟨t, rfl, rfl, h⟩
              exact hx4 _ _ (hj4 t r _ s h)
      refine p8 fun j3 hx3 => ?_
      refine c5 (f9 _ _ _ _ _ _) ?_
      refine d6 h (fun _ h => ?_) (fun _ h => ?_)
      ·exact hx3 _ _ (hj3 (decide (x0 = 215)) H _ I h)
      ·refine c5 (f9 _ _ _ _ _ _) ?_
       refine d6 h (fun _ h => ?_) (fun _ h => ?_)
       ·exact hx3 _ _ (hj3 (decide (x0 = 247)) H _ I h)
       ·refine c5 (f9 _ _ _ _ _ _) ?_
        exact hx3 _ _ (hj3 (decide (x0 = 930)) H _ I h)
    refine p8 fun j2 hx2 => ?_
    refine c5 (f9 _ _ _ _ _ _) ?_
    refine d6 h (fun _ h => ?_) (fun _ h => ?_)
    ·exact hx2 _ _ (hj2 (decide (x0 = 59)) H _ I h)
    ·refine c5 (f9 _ _ _ _ _ _) ?_
     refine d6 h (fun _ h => ?_) (fun _ h => ?_)
     ·exact hx2 _ _ (hj2 (decide (x0 = 44)) H _ I h)
     ·refine c5 (f9 _ _ _ _ _ _) ?_
      refine d6 h (fun _ h => ?_) (fun _ h => ?_)
      ·exact hx2 _ _ (hj2 (decide (x0 = 123)) H _ I h)
      ·refine c5 (f9 _ _ _ _ _ _) ?_
       refine d6 h (fun _ h => ?_) (fun _ h => ?_)
       ·exact hx2 _ _ (hj2 (decide (x0 = 125)) H _ I h)
       ·refine c5 (f9 _ _ _ _ _ _) ?_
        refine d6 h (fun _ h => ?_) (fun _ h => ?_)
        ·exact hx2 _ _ (hj2 (decide (x0 = 40)) H _ I h)
        ·refine c5 (f9 _ _ _ _ _ _) ?_
         refine d6 h (fun _ h => ?_) (fun _ h => ?_)
         ·exact hx2 _ _ (hj2 (decide (x0 = 41)) H _ I h)
         ·refine c5 (f9 _ _ _ _ _ _) ?_
          refine d6 h (fun _ h => ?_) (fun _ h => ?_)
          ·exact hx2 _ _ (hj2 (decide (x0 = 91)) H _ I h)
          ·refine c5 (f9 _ _ _ _ _ _) ?_
           refine d6 h (fun _ h => ?_) (fun _ h => ?_)
           ·exact hx2 _ _ (hj2 (decide (x0 = 93)) H _ I h)
           ·refine c5 (f9 _ _ _ _ _ _) ?_
            refine d6 h (fun _ h => ?_) (fun _ h => ?_)
            ·exact hx2 _ _ (hj2 (decide (x0 = 61)) H _ I h)
            ·refine c5 (f9 _ _ _ _ _ _) ?_
             refine d6 h (fun _ h => ?_) (fun _ h => ?_)
             ·exact hx2 _ _ (hj2 (decide (x0 = 33)) H _ I h)
             ·refine c5 (f9 _ _ _ _ _ _) ?_
              refine d6 h (fun _ h => ?_) (fun _ h => ?_)
              ·exact hx2 _ _ (hj2 (decide (x0 = 60)) H _ I h)
              ·refine c5 (f9 _ _ _ _ _ _) ?_
               refine d6 h (fun _ h => ?_) (fun _ h => ?_)
               ·exact hx2 _ _ (hj2 (decide (x0 = 62)) H _ I h)
               ·refine c5 (f9 _ _ _ _ _ _) ?_
                refine d6 h (fun _ h => ?_) (fun _ h => ?_)
                ·exact hx2 _ _ (hj2 (decide (x0 = 43)) H _ I h)
                ·refine c5 (f9 _ _ _ _ _ _) ?_
                 refine d6 h (fun _ h => ?_) (fun _ h => ?_)
                 ·exact hx2 _ _ (hj2 (decide (x0 = 45)) H _ I h)
                 ·refine c5 (f9 _ _ _ _ _ _) ?_
                  refine d6 h (fun _ h => ?_) (fun _ h => ?_)
                  ·exact hx2 _ _ (hj2 (decide (x0 = 42)) H _ I h)
                  ·refine c5 (f9 _ _ _ _ _ _) ?_
                   refine d6 h (fun _ h => ?_) (fun _ h => ?_)
                   ·exact hx2 _ _ (hj2 (decide (x0 = 47)) H _ I h)
                   ·refine c5 (f9 _ _ _ _ _ _) ?_
                    refine d6 h (fun _ h => ?_) (fun _ h => ?_)
                    ·exact hx2 _ _ (hj2 (decide (x0 = 37)) H _ I h)
                    ·refine c5 (f9 _ _ _ _ _ _) ?_
                     refine d6 h (fun _ h => ?_) (fun _ h => ?_)
                     ·exact hx2 _ _ (hj2 (decide (x0 = 38)) H _ I h)
                     ·refine c5 (f9 _ _ _ _ _ _) ?_
                      exact hx2 _ _ (hj2 (decide (x0 = 124)) H _ I h)
 refine p8 fun j1 hx1 => ?_
 refine c5 (f9 _ _ _ _ _ _) ?_
 refine d6 h (fun _ h => ?_) (fun _ h => ?_)
 ·exact hx1 _ _ (hj1 (decide (x0 = 32)) H _ b h)
 ·refine c5 (f9 _ _ _ _ _ _) ?_
  refine d6 h (fun _ h => ?_) (fun _ h => ?_)
  ·exact hx1 _ _ (hj1 (decide (x0 = 9)) H _ b h)
  ·refine c5 (f9 _ _ _ _ _ _) ?_
   exact hx1 _ _ (hj1 (decide (x0 = 13)) H _ b h)
def P9 (a4n : Int) (a4o : Int) (a4p : Int) (a4q : Bool) (a4r : Bool) (a3N : (List ByteArray)) (H : Hp) (K : Bool → i4 → (List ByteArray) → Hp → Prop) : Prop :=
 K true (i4.mk a4n a4o a4p a4q a4r (Sl.mk none 0 0)) a3N H
def Q0 (b2P : Int) (a0u : Sl) (o7 : Int) (T8 : Int) (W4 : Int) (W5 : Int) (W6 : Int) (W7 : Bool) (W8 : Bool) (R0 : (List ByteArray)) (H : Hp) (n2 : (Int × Int × Int × Int × Bool × Bool × (List ByteArray)) → Hp → Prop) (K : Bool → i4 → (List ByteArray) → Hp → Prop) : Prop :=
 (T8 < o7 →
 (0 : Int) ≤ T8 ∧ (T8 : Int) < a0u.n ∧ ∃ c : d2, EltH H a0u T8 1 [(A0 c)] ∧
 W1 (i4.mk W4 W5 W6 W7 W8 (Sl.mk none 0 0)) R0 c b2P H (fun b d e f =>
 TG ((!b) = false) (a1q c f) (Sl.mk none 0 0) f (fun (j : Sl) (g : Hp) =>
 TG ((!b) = false) (fun k_ => O0 j (IntKind.wrap .i64 (b2P + 1)) (Q6 d) e g fun k l m H_ => k_ (k, l, m) H_) (false, (Q6 d), e) g (fun (a : Bool × i4 × (List ByteArray)) (i : Hp) =>
 (((!b) || (!a.1)) = true →
 K false (i4.mk (a.2.1.fnodes) (a.2.1.fdepth) (a.2.1.fe) (a.2.1.fform) (a.2.1.fnamed) (Sl.mk none 0 0)) a.2.2 i) ∧
 (((!b) || (!a.1)) = false →
 n2 ((IntKind.wrap .i64 (T8 + 1)), (a.2.1.fnodes), (a.2.1.fdepth), (a.2.1.fe), (a.2.1.fform), (a.2.1.fnamed), a.2.2) i))))) ∧
 (¬ (T8 < o7) →
 P9 W4 W5 W6 W7 W8 R0 H K)
def a0Z (x0 : Sl) (x1 : Int) (x2 : i4) (a : (List ByteArray)) (H : Hp) (K : Bool → i4 → (List ByteArray) → Hp → Prop) : Prop :=
 TL ((0, x2.fnodes, x2.fdepth, x2.fe, x2.fform, x2.fnamed, a) : Int × Int × Int × Int × Bool × Bool × (List ByteArray)) H fun (s : Int × Int × Int × Int × Bool × Bool × (List ByteArray)) H n2 => Q0 x1 x0 (x0.n : Int) s.1 s.2.1 s.2.2.1 s.2.2.2.1 s.2.2.2.2.1 s.2.2.2.2.2.1 s.2.2.2.2.2.2 H n2 K
theorem a6D (x0 : Sl) (x1 : Int) (x2 : i4) (ai : (List ByteArray)) {H : Hp} {K : Bool → i4 → (List ByteArray) → Hp → Prop} (h : a0Z x0 x1 x2 ai H K) : O0 x0 x1 x2 ai H K := by
 intro g2 g2b g3 az ba bb
 refine Ct.of fun w0 w ps0 H0 R E I hR => c0A ?_
 unfold a0Z at h
 unfold F60
 have hj1 : ∀ (a4n : Int) (a4o : Int) (a4p : Int) (a4q : Bool) (a4r : Bool) (a3N : (List ByteArray)) (a6q : Sl) (a6r : Frag) (H : Hp) (w : World) (_ : RowL 9 1 v1 a6q a3N a6r) (_ : Inv w0 ps0 H0 H [bx g2 117 [(Value.pointer (some ⟨g2b, 0, none⟩))], bx g2b 116 [(vi a4n), (vi a4o), (vi a4p), (Value.bool a4q), (Value.bool a4r), (vs a6q)], bx g3 132 [(Value.func (.func 60) #[] #[(Value.pointer (some ⟨g2, 0, none⟩)), (Value.pointer (some ⟨g3, 0, none⟩))])], a6r] w) (_ : P9 a4n a4o a4p a4q a4r a3N H K), b2y w R E := by
  intro a4n a4o a4p a4q a4r a3N a6q a6r H w b6c I h
  unfold b2y
  intro _
  unfold P9 at h
  exact hR _ H _ _ ((((I.bring 2).bring 3).bring 3).bring 3) ⟨true, (i4.mk a4n a4o a4p a4q a4r (Sl.mk none 0 0)), a3N, a6q, a6r, rfl, rfl, b6c, h⟩
 refine p8 fun j1 hx1 => ?_
 refine c5 (a5s _ _ _) ?_
 obtain ⟨aj, z, bc, bd⟩ := h
 refine D1 (J := fun n l w => ∃ (s : Int × Int × Int × Int × Bool × Bool × (List ByteArray)) (H : Hp) (a4M : Sl) (a4N : Frag) , n = z s ∧ l = (match s with | (T8, W4, W5, W6, W7, W8, R0) => [(vi T8)]) ∧ (match s with | (T8, W4, W5, W6, W7, W8, R0) => RowL 9 1 v1 a4M R0 a4N) ∧ (match s with | (T8, W4, W5, W6, W7, W8, R0) => Inv w0 ps0 H0 H [bx g2 117 [(Value.pointer (some ⟨g2b, 0, none⟩))], bx g2b 116 [(vi W4), (vi W5), (vi W6), (Value.bool W7), (Value.bool W8), (vs a4M)], bx g3 132 [(Value.func (.func 60) #[] #[(Value.pointer (some ⟨g2, 0, none⟩)), (Value.pointer (some ⟨g3, 0, none⟩))])], a4N] w) ∧ aj s H) ⟨_, (0, x2.fnodes, x2.fdepth, x2.fe, x2.fform, x2.fnamed, ai), H, az, ba, rfl, rfl, bb, ((((I.bring 2).bring 3).bring 3).bring 3), bc⟩ ?_
 rintro bj bk w next2 ⟨⟨T8, W4, W5, W6, W7, W8, R0⟩, H, a4M, a4N, rfl, ak, a8l, I, be⟩ hn2
 dsimp only at ak I a8l
 simp only [List.map_cons, List.map_nil, List.cons.injEq, and_true] at ak
 have e11 := ak
 simp only [e11]
 obtain ⟨n2, hm2, h⟩ : ∃ n2 : (Int × Int × Int × Int × Bool × Bool × (List ByteArray)) → Hp → Prop, (∀ s' H', n2 s' H' → aj s' H' ∧ z s' < z (T8, W4, W5, W6, W7, W8, R0)) ∧ Q0 x1 x0 (x0.n : Int) T8 W4 W5 W6 W7 W8 R0 H n2 K := ⟨_, fun _ _ h => h, bd (T8, W4, W5, W6, W7, W8, R0) H (fun s' H' => aj s' H' ∧ z s' < z (T8, W4, W5, W6, W7, W8, R0)) be (fun _ _ a b => ⟨a, b⟩)⟩
 unfold b5V
 unfold Q0 at h
 refine c5 (v8 _ _ _ _ _ _) ?_
 refine d6 h (fun _ h => ?_) (fun _ h => ?_)
 ·obtain ⟨bf, bg, bh, al, h⟩ := h
  obtain ⟨bl, bm, bi, al⟩ := al
  refine c5 (b5t bi _ _ _ _ bf bg) ?_
  refine c7 (ld1 (v := (A0 bh)) Tryd.isAgg126 (I.atH al)) ?_
  refine L5 I fun bn ao => ?_
  refine o4 (l1 Tryd.isAgg117 ao rfl) ?_
  refine f7 Tryd.call61 (h g2b a4M a4N a8l) ((ao.bring 3).bring 2) ?_
  rintro _ ap _ aq o _ _ ⟨p, aa, am, ac, ad, rfl, rfl, ar, h⟩
  refine d7 (N6 _) ?_
  simp only [G0]
  refine d7 (Pu.g fun hb => by have c := hb; simp only [f8 c]; with_reducible exact (s6 _ _ _ _ _ _)) ?_
  refine o4 (Ld.g fun hb => by have c := hb; exact (l1 Tryd.isAgg132 (o.bring 3) rfl)) ?_
  refine a9P (D := fun au u => ∃ (ab : Sl) (k : Hp), au = (gv (!p) false (vs ab)) ∧ (Inv w0 ps0 H0 k [bx g2b 116 (S3 aa ac), ad, bx g2 117 [(Value.pointer (some ⟨g2b, 0, none⟩))], bx g3 132 [(Value.func (.func 60) #[] #[(Value.pointer (some ⟨g2, 0, none⟩)), (Value.pointer (some ⟨g3, 0, none⟩))])]] u) ∧ (∀ i, i < aq.heap.size → ¬ inF [] i → u.heap[i]? = aq.heap[i]?) ∧ Hle ap k ∧ (TG ((!p) = false) (fun k_ => O0 ab (IntKind.wrap .i64 (x1 + 1)) (Q6 aa) am k fun m d j H_ => k_ (m, d, j) H_) (false, (Q6 aa), am) k (fun (e : Bool × i4 × (List ByteArray)) (f : Hp) =>
 (((!p) || (!e.1)) = true →
 K false (i4.mk (e.2.1.fnodes) (e.2.1.fdepth) (e.2.1.fe) (e.2.1.fform) (e.2.1.fnamed) (Sl.mk none 0 0)) e.2.2 f) ∧
 (((!p) || (!e.1)) = false →
 n2 ((IntKind.wrap .i64 (T8 + 1)), (e.2.1.fnodes), (e.2.1.fdepth), (e.2.1.fe), (e.2.1.fform), (e.2.1.fnamed), e.2.2) f)))) (fun y => ?_) (fun y => ?_) ?_
  ·replace h := h.1 y
   have c := y
   simp only [f8 c]
   refine a6B o h (fun ab k u ae av an h => ?_)
   exact ⟨ab, k, by rfl, ae, an, av, h⟩
  ·exact ⟨(Sl.mk none 0 0), ap, by rw [b0q y], o, fun _ _ _ => rfl, Hle.refl _, h.2 y⟩
  ·clear h
   rintro au u ⟨ab, k, rfl, ae, an, av, h⟩
   refine ⟨(an _ (o.bring 3).lt1 (Inv.L6 (Fi := []) (o.bring 3))), ?_⟩
   refine a9P (D := fun aw af => ∃ (m : Bool) (d : i4) (j : (List ByteArray)) (f : Hp) (q : Sl) (r : Frag) , aw = (gv (!p) false (Value.bool m)) ∧ (RowL 9 1 v1 q j r) ∧ (Inv w0 ps0 H0 f [bx g2 117 [(Value.pointer (some ⟨g2b, 0, none⟩))], bx g2b 116 (S3 d q), r, bx g3 132 [(Value.func (.func 60) #[] #[(Value.pointer (some ⟨g2, 0, none⟩)), (Value.pointer (some ⟨g3, 0, none⟩))])]] af) ∧ (∀ i, i < u.heap.size → ¬ inF [bx g2 117 [(Value.pointer (some ⟨g2b, 0, none⟩))], bx g2b 116 (S3 aa ac), ad, bx g3 132 [(Value.func (.func 60) #[] #[(Value.pointer (some ⟨g2, 0, none⟩)), (Value.pointer (some ⟨g3, 0, none⟩))])]] i → af.heap[i]? = u.heap[i]?) ∧ Hle k f ∧ ((((!p) || (!m)) = true →
 K false (Q6 d) j f) ∧
 (((!p) || (!m)) = false →
 n2 ((IntKind.wrap .i64 (T8 + 1)), d.fnodes, d.fdepth, d.fe, d.fform, d.fnamed, j) f))) (fun t => ?_) (fun t => ?_) ?_
   ·replace h := h.1 t
    have c := t
    simp only [f8 c]
    refine a2u (cap := [(Value.pointer (some ⟨g2, 0, none⟩)), (Value.pointer (some ⟨g3, 0, none⟩))]) Tryd.call60 (h g2 g2b g3 ac ad ar) ((((ae.bring 3).bring 2).bring 2).bring 3) ?_
    rintro _ f _ af ag ax ay ⟨m, d, j, q, r, rfl, rfl, ah, h⟩
    exact ⟨m, d, j, f, q, r, by rfl, ah, ag, ay, ax, h⟩
   ·exact ⟨false, (Q6 aa), am, k, ac, ad, by rw [b0q t], ar, ((((ae.bring 3).bring 2).bring 2).bring 3), fun _ _ _ => rfl, Hle.refl _, h.2 t⟩
   ·clear h
    rintro aw af ⟨m, d, j, f, q, r, rfl, ah, ag, ay, ax, h⟩
    refine d7 (Pu.g fun hb => by have c := hb; simp only [f8 c]; with_reducible exact (N6 _)) ?_
    refine d7 (F8 _ _) ?_
    refine o5 h (fun _ h => ?_) (fun _ h => ?_)
    ·exact hR _ f _ _ ((((ag.bring 3).bring 3).bring 3).bring 3) ⟨false, (Q6 d), j, q, r, rfl, rfl, ah, h⟩
    ·refine c5 (s6 _ _ _ _ _ _) ?_
     exact hn2 _ _ _ (hm2 _ _ h).2 ⟨((IntKind.wrap .i64 (T8 + 1)), d.fnodes, d.fdepth, d.fe, d.fform, d.fnamed, j), f, q, r, rfl, rfl, ah, ((((ag.bring 2).bring 3).bring 3).bring 3), (hm2 _ _ h).1⟩
 ·exact hx1 _ _ (hj1 W4 W5 W6 W7 W8 R0 a4M a4N H _ a8l ((((I.bring 3).bring 3).bring 3).bring 3) h)
def a2H (x0 : i7) (H : Hp) (K : Int → Hp → Prop) : Prop :=
 (0 < x0.K0 →
 K 2 H) ∧
 (¬ (0 < x0.K0) →
 K 1 H)
theorem a8m (x0 : i7) {H : Hp} {K : Int → Hp → Prop} (h : a2H x0 H K) : a4I x0 H K := by
 refine Ct.of fun w0 w ps0 H0 R E I hR => b9T ?_
 unfold a2H at h
 unfold F27
 refine A5 I (cs := (g9 x0)) rfl fun b c a d => ?_
 refine c5 a2Y ?_
 refine c7 (l1 Tryd.isAgg3 a rfl) ?_
 refine c5 (O8 _ _ _ _ _ _) ?_
 refine d6 h (fun _ h => ?_) (fun _ h => ?_)
 ·exact hR _ H _ _ a.drop ⟨2, rfl, rfl, h⟩
 ·exact hR _ H _ _ a.drop ⟨1, rfl, rfl, h⟩
end Go.Proofs.YtaokfhdinhimfaaDoor
