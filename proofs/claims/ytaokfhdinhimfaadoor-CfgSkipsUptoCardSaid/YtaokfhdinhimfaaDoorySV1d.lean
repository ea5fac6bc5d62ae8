/- Typed formulas of the program's functions, and the theorems that the contracts follow from them; printed by lift.py off the code. -/
import Derived.Test.YtaokfhdinhimfaaDoorySV1
namespace Go.Proofs.YtaokfhdinhimfaaDoor
open Go.RowKit
set_option maxRecDepth 100000
set_option maxHeartbeats 2000000
def a3F (x0 : Int) (H : Hp) (K : Int → Hp → Prop) : Prop :=
 (((decide (x0 < 1)) || (decide (6 < x0))) = true →
 K 0 H) ∧
 (((decide (x0 < 1)) || (decide (6 < x0))) = false →
 (0 : Int) ≤ x0 ∧ (x0 : Int) < 7 ∧
 K (([0, 6, 5, 4, 3, 2, 1] : List Int).getD (x0 : Int).toNat 0) H)
theorem a6f (x0 : Int) {H : Hp} {K : Int → Hp → Prop} (h : a3F x0 H K) : a0j x0 H K := by
 refine Ct.of fun w0 w ps0 H0 R E I hR => c0g ?_
 unfold a3F at h
 unfold F40
 refine c5 (v8 _ _ _ _ _ _) ?_
 simp only [G0]
 refine c5 (Pu.g fun hb => by have a := hb; simp only [f8 a]; with_reducible exact (O8 _ _ _ _ _ _)) ?_
 refine c5 (F8 _ _) ?_
 refine o5 h (fun _ h => ?_) (fun _ h => ?_)
 ·exact hR _ H _ _ I ⟨0, rfl, rfl, h⟩
 ·refine c5 (a5M _ _ _ _ _ _ _) ?_
  obtain ⟨b, c, h⟩ := h
  refine c5 (b4i _ _ _ _ _ _ _ _ _ b c) ?_
  exact hR _ H _ _ I ⟨(([0, 6, 5, 4, 3, 2, 1] : List Int).getD (x0 : Int).toNat 0), rfl, rfl, h⟩
def a3G (x0 : Bool) (x1 : Bool) (x2 : Bool) (H : Hp) (K : Bool → Hp → Prop) : Prop :=
 (x0 = true →
 K x1 H) ∧
 (x0 = false →
 K x2 H)
theorem a9A (x0 : Bool) (x1 : Bool) (x2 : Bool) {H : Hp} {K : Bool → Hp → Prop} (h : a3G x0 x1 x2 H K) : O5 x0 x1 x2 H K := by
 refine Ct.of fun w0 w ps0 H0 R E I hR => c0b ?_
 unfold a3G at h
 unfold F35
 refine o5 h (fun _ h => ?_) (fun _ h => ?_)
 ·exact hR _ H _ _ I ⟨x1, rfl, rfl, h⟩
 ·exact hR _ H _ _ I ⟨x2, rfl, rfl, h⟩
def V5 (a : d8) (b : m0) (H : Hp) (K : Int → Hp → Prop) : Prop :=
 K 0 H
def a1s (c1e : Sl) (b7U : Int) (d : d8) (e : m0) (a2L : Int) (H : Hp) (n4 : Int → Hp → Prop) (K : Int → Hp → Prop) : Prop :=
 (a2L < b7U →
 (0 : Int) ≤ a2L ∧ (a2L : Int) < c1e.n ∧ ∃ a : Sl, EltH H c1e a2L 1 [(vs a)] ∧
 a3m a H (fun b c =>
 ((!b) = true →
 K 92 c) ∧
 ((!b) = false →
 n4 (IntKind.wrap .i64 (a2L + 1)) c))) ∧
 (¬ (a2L < b7U) →
 V5 d e H K)
def V6 (a4d : (List (List c6))) (e : d8) (d : m0) (H : Hp) (K : Int → Hp → Prop) : Prop :=
 ∀ (a : Sl) (b : Hp), Hle H b → SlHH b 10 f6 a a4d → a.n ≤ a.c →
 TL (0 : Int) b fun (s : Int) H n4 => a1s a d.f4 e d s H n4 K
def V7 (b7V : Sl) (b7W : Int) (c : d8) (f : m0) (a2p : (List (List c6))) (a1i : Int) (H : Hp) (n5 : ((List (List c6)) × Int) → Hp → Prop) (K : Int → Hp → Prop) : Prop :=
 (a1i < b7W →
 (0 : Int) ≤ a1i ∧ (a1i : Int) < b7V.n ∧ ∃ a : c6, EltH H b7V a1i 10 (f6 a) ∧
 a0l c a H (fun d e =>
 ((!d) = true →
 K 92 e) ∧
 ((!d) = false →
 (0 : Int) ≤ a.u9 ∧ ∃ b : List c6, (a2p)[(a.u9 : Int).toNat]? = some b ∧
 (b.length + ([a] : List c6).length) * 81 ≤ 140737488355328 ∧
 n5 ((a2p.set (a.u9 : Int).toNat (b ++ [a])), (IntKind.wrap .i64 (a1i + 1))) e))) ∧
 (¬ (a1i < b7W) →
 V6 a2p c f H K)
def V8 (a : m0) (H : Hp) (K : Int → Hp → Prop) : Prop :=
 L8 (d8.mk a) a.s7 H (fun b c =>
 ((!b) = true →
 K 92 c) ∧
 ((!b) = false →
 (0 : Int) ≤ a.f4 ∧ a.f4 * 25 ≤ 140737488355328 ∧
 TL (((List.replicate (a.f4 : Int).toNat ([] : List c6)), 0) : (List (List c6)) × Int) c fun (s : (List (List c6)) × Int) H n5 => V7 a.v7 (a.v7.n : Int) (d8.mk a) a s.1 s.2 H n5 K))
def a1t (b7X : Sl) (b7Y : Int) (b : m0) (a4f : Int) (H : Hp) (n6 : Int → Hp → Prop) (K : Int → Hp → Prop) : Prop :=
 (a4f < b7Y →
 (0 : Int) ≤ a4f ∧ (a4f : Int) < b7X.n ∧ ∃ a : i7, EltH H b7X a4f 2 (g9 a) ∧
 (((decide (a.K0 < 1)) || (decide (1024 < a.K0))) = true →
 K 92 H) ∧
 (((decide (a.K0 < 1)) || (decide (1024 < a.K0))) = false →
 n6 (IntKind.wrap .i64 (a4f + 1)) H)) ∧
 (¬ (a4f < b7Y) →
 V8 b H K)
def a2M (x0 : m0) (H : Hp) (K : Int → Hp → Prop) : Prop :=
 ((((decide (x0.r8 < 0)) || (decide (64 < x0.r8))) || (decide (64 < (IntKind.wrap .i64 ((x0.p7.n : Int) + x0.r8))))) = true →
 K 90 H) ∧
 ((((decide (x0.r8 < 0)) || (decide (64 < x0.r8))) || (decide (64 < (IntKind.wrap .i64 ((x0.p7.n : Int) + x0.r8))))) = false →
 ((((decide (x0.f4 < 1)) || (decide (4096 < x0.f4))) || (decide (8192 < (x0.v7.n : Int)))) = true →
 K 91 H) ∧
 ((((decide (x0.f4 < 1)) || (decide (4096 < x0.f4))) || (decide (8192 < (x0.v7.n : Int)))) = false →
 (16 < (x0.m9.n : Int) →
 K 92 H) ∧
 (¬ (16 < (x0.m9.n : Int)) →
 TL (0 : Int) H fun (s : Int) H n6 => a1t x0.m9 (x0.m9.n : Int) x0 s H n6 K)))
theorem a8s (x0 : m0) {H : Hp} {K : Int → Hp → Prop} (h : a2M x0 H K) : a2B x0 H K := by
 refine Ct.of fun w0 w ps0 H0 R E I hR => b9G ?_
 unfold a2M at h
 unfold F14
 refine A5 I (cs := (j6 x0)) rfl fun i co f cp => ?_
 refine c5 a0P ?_
 refine c7 (l1 Tryd.isAgg3 f rfl) ?_
 refine c5 (v8 _ _ _ _ _ _) ?_
 refine c5 (Pu.g fun hb => by have d := hb; with_reducible exact a0P) ?_
 refine c7 (Ld.g fun hb => by have d := hb; simp only [f8 d]; exact (l1 Tryd.isAgg3 f rfl)) ?_
 refine c5 (Pu.g fun hb => by have d := hb; simp only [f8 d]; with_reducible exact (O8 _ _ _ _ _ _)) ?_
 refine c5 (F8 _ _) ?_
 refine c5 (Pu.g fun hb => by have d := hb; with_reducible exact a5m) ?_
 refine c7 (Ld.g fun hb => by have d := hb; simp only [f8 d]; exact (l1 Tryd.isAgg26 f rfl)) ?_
 refine c5 (Pu.g fun hb => by have d := hb; simp only [f8 d]; with_reducible exact (a3L _ _ _)) ?_
 refine c5 (Pu.g fun hb => by have d := hb; with_reducible exact a0P) ?_
 refine c7 (Ld.g fun hb => by have d := hb; simp only [f8 d]; exact (l1 Tryd.isAgg3 f rfl)) ?_
 refine c5 (Pu.g fun hb => by have d := hb; simp only [f8 d]; with_reducible exact (s6 _ _ _ _ _ _)) ?_
 refine c5 (Pu.g fun hb => by have d := hb; simp only [f8 d]; with_reducible exact (O8 _ _ _ _ _ _)) ?_
 refine c5 (F8 _ _) ?_
 refine o5 h (fun _ h => ?_) (fun _ h => ?_)
 ·exact hR _ H _ _ f.drop ⟨90, rfl, rfl, h⟩
 ·refine c5 K1 ?_
  refine c7 (l1 Tryd.isAgg3 f rfl) ?_
  refine c5 (v8 _ _ _ _ _ _) ?_
  refine c5 (Pu.g fun hb => by have d := hb; with_reducible exact K1) ?_
  refine c7 (Ld.g fun hb => by have d := hb; simp only [f8 d]; exact (l1 Tryd.isAgg3 f rfl)) ?_
  refine c5 (Pu.g fun hb => by have d := hb; simp only [f8 d]; with_reducible exact (O8 _ _ _ _ _ _)) ?_
  refine c5 (F8 _ _) ?_
  refine c5 (Pu.g fun hb => by have d := hb; with_reducible exact M8) ?_
  refine c7 (Ld.g fun hb => by have d := hb; simp only [f8 d]; exact (l1 Tryd.isAgg28 f rfl)) ?_
  refine c5 (Pu.g fun hb => by have d := hb; simp only [f8 d]; with_reducible exact (a3J _ _ _)) ?_
  refine c5 (Pu.g fun hb => by have d := hb; simp only [f8 d]; with_reducible exact (O8 _ _ _ _ _ _)) ?_
  refine c5 (F8 _ _) ?_
  refine o5 h (fun _ h => ?_) (fun _ h => ?_)
  ·exact hR _ H _ _ f.drop ⟨91, rfl, rfl, h⟩
  ·refine c5 a7n ?_
   refine c7 (l1 Tryd.isAgg27 f rfl) ?_
   refine c5 (a2y _ _ _) ?_
   refine c5 (O8 _ _ _ _ _ _) ?_
   refine d6 h (fun _ h => ?_) (fun _ h => ?_)
   ·exact hR _ H _ _ f.drop ⟨92, rfl, rfl, h⟩
   ·have hj1 : ∀ (H : Hp) (w : World) (_ : Inv w0 ps0 H0 H [bx i 30 (j6 x0)] w) (_ : V8 x0 H K), b2a (Value.pointer (some ⟨i, 0, none⟩)) w R E := by
     intro H w I h
     unfold b2a
     intro _
     unfold V8 at h
     refine c7 (lW Tryd.isAgg30 Tryd.sizeOf30 rfl I) ?_
     refine c5 (b3t _ _ _ _ _ _ _ _ _ _ _ _) ?_
     refine o3 I Tryd.zeroValue71 (cs := [(Value.slice none 0 0), (vi 0), (Value.slice none 0 0), (vi 0), (vi 0), (Value.slice none 0 0)]) rfl fun t cq ay cr => ?_
     refine o8 ay Tryd.sizeOf71 (vs := (j6 x0)) fun ct aa cu => ?_
     refine c7 (lW Tryd.isAgg71 Tryd.sizeOf71 rfl aa) ?_
     refine c5 a1y ?_
     refine c7 (l1 Tryd.isAgg3 (aa.bring 1) rfl) ?_
     refine f7 Tryd.call20 h aa ?_
     rintro _ al _ cv ab _ _ ⟨cw, rfl, rfl, h⟩
     refine c5 (N6 _) ?_
     refine o5 h (fun _ h => ?_) (fun _ h => ?_)
     ·exact hR _ al _ _ ab.drop.drop ⟨92, rfl, rfl, h⟩
     ·refine c5 K1 ?_
      refine c7 (l1 Tryd.isAgg3 (ab.bring 1) rfl) ?_
      obtain ⟨az, ba, h⟩ := h
      refine b9x ab az ba fun u bb cx bc am cy => ?_
      have hj2 : ∀ (a4d : (List (List c6))) (Fs6j2 : Frag) (H : Hp) (w : World) (_ : RowsL 28 46 10 f6 u a4d Fs6j2) (_ : Inv w0 ps0 H0 H [bx t 71 [(Value.slice (d8.mk x0).m7.p7.a (d8.mk x0).m7.p7.n (d8.mk x0).m7.p7.c), (vi (d8.mk x0).m7.r8), (Value.slice (d8.mk x0).m7.m9.a (d8.mk x0).m7.m9.n (d8.mk x0).m7.m9.c), (vi (d8.mk x0).m7.f4), (vi (d8.mk x0).m7.s7), (Value.slice (d8.mk x0).m7.v7.a (d8.mk x0).m7.v7.n (d8.mk x0).m7.v7.c)], bx i 30 (j6 x0), Fs6j2] w) (_ : V6 a4d (d8.mk x0) x0 H K), b1Z (Value.pointer (some ⟨i, 0, none⟩)) (vs u) w R E := by
       intro a4d Fs6j2 H w b4w I h
       unfold b1Z
       intro _
       unfold V6 at h
       have hj3 : ∀ (H : Hp) (w : World) (_ : Inv w0 ps0 H0 H [bx t 71 [(Value.slice (d8.mk x0).m7.p7.a (d8.mk x0).m7.p7.n (d8.mk x0).m7.p7.c), (vi (d8.mk x0).m7.r8), (Value.slice (d8.mk x0).m7.m9.a (d8.mk x0).m7.m9.n (d8.mk x0).m7.m9.c), (vi (d8.mk x0).m7.f4), (vi (d8.mk x0).m7.s7), (Value.slice (d8.mk x0).m7.v7.a (d8.mk x0).m7.v7.n (d8.mk x0).m7.v7.c)], bx i 30 (j6 x0)] w) (_ : V5 (d8.mk x0) x0 H K), b1Y w R E := by
        intro H w I h
        unfold b1Y
        intro _
        unfold V5 at h
        exact hR _ H _ _ I.drop.drop ⟨0, rfl, rfl, h⟩
       refine p8 fun j3 hx3 => ?_
       refine c5 K1 ?_
       refine c7 (l1 Tryd.isAgg3 (I.bring 1) rfl) ?_
       obtain ⟨bd, be, bf, bg, bh⟩ := Inv.freezeLL (I.bring 2) b4w (by decide)
       replace h := h u bd bf bg bh
       refine a2v (σ := Int) (fun a2L => [(vi a2L)]) (fun a2L => [bx t 71 [(Value.slice (d8.mk x0).m7.p7.a (d8.mk x0).m7.p7.n (d8.mk x0).m7.p7.c), (vi (d8.mk x0).m7.r8), (Value.slice (d8.mk x0).m7.m9.a (d8.mk x0).m7.m9.n (d8.mk x0).m7.m9.c), (vi (d8.mk x0).m7.f4), (vi (d8.mk x0).m7.s7), (Value.slice (d8.mk x0).m7.v7.a (d8.mk x0).m7.v7.n (d8.mk x0).m7.v7.c)], bx i 30 (j6 x0)]) h rfl ((be.bring 1).bring 1) ?_
       rintro a2L H cz w next4 n4 an I h hn4
       simp only [List.map_cons, List.map_nil, List.cons.injEq, and_true] at an
       have e100 := an
       simp only [e100]
       unfold b5y
       unfold a1s at h
       refine c5 (v8 _ _ _ _ _ _) ?_
       refine d6 h (fun _ h => ?_) (fun _ h => ?_)
       ·obtain ⟨bi, bj, bk, ac, h⟩ := h
        obtain ⟨da, db, bl, ac⟩ := ac
        refine c5 (a9w bl _ _ _ _ bi bj) ?_
        refine c7 (ld1 (v := (vs bk)) Tryd.isAgg28 (I.atH ac)) ?_
        refine f7 Tryd.call22 h I ?_
        rintro _ bm _ dc ao _ _ ⟨dd, rfl, rfl, h⟩
        refine c5 (N6 _) ?_
        refine o5 h (fun _ h => ?_) (fun _ h => ?_)
        ·exact hR _ bm _ _ ao.drop.drop ⟨92, rfl, rfl, h⟩
        ·refine c5 (s6 _ _ _ _ _ _) ?_
         exact hn4 (IntKind.wrap .i64 (a2L + 1)) _ _ h ((ao.bring 1).bring 1)
       ·exact hx3 _ _ (hj3 H _ ((I.bring 1).bring 1) h)
      refine p8 fun j2 hx2 => ?_
      refine c5 M8 ?_
      refine c7 (l1 Tryd.isAgg28 (am.bring 2) rfl) ?_
      refine c5 (a3J _ _ _) ?_
      obtain ⟨ad, q, bn, bo⟩ := h
      refine D1 (J := fun n l w => ∃ (s : (List (List c6)) × Int) (H : Hp) (Fs6l5 : Frag) , n = q s ∧ l = (match s with | (a2p, a1i) => [(vi a1i)]) ∧ (match s with | (a2p, a1i) => RowsL 28 46 10 f6 u a2p Fs6l5) ∧ (match s with | (a2p, a1i) => Inv w0 ps0 H0 H [bx t 71 [(Value.slice (d8.mk x0).m7.p7.a (d8.mk x0).m7.p7.n (d8.mk x0).m7.p7.c), (vi (d8.mk x0).m7.r8), (Value.slice (d8.mk x0).m7.m9.a (d8.mk x0).m7.m9.n (d8.mk x0).m7.m9.c), (vi (d8.mk x0).m7.f4), (vi (d8.mk x0).m7.s7), (Value.slice (d8.mk x0).m7.v7.a (d8.mk x0).m7.v7.n (d8.mk x0).m7.v7.c)], bx i 30 (j6 x0), Fs6l5] w) ∧ ad s H) ⟨_, ((List.replicate (x0.f4 : Int).toNat ([] : List c6)), 0), al, bb, rfl, rfl, (RowsL.made (e := 46) a1X a1Y bc), ((am.bring 2).bring 2), bn⟩ ?_
      rintro de df w next5 ⟨⟨a2p, a1i⟩, H, Fs6l5, rfl, ae, b4C, I, bp⟩ hn5
      dsimp only at ae I b4C
      simp only [List.map_cons, List.map_nil, List.cons.injEq, and_true] at ae
      have e77 := ae
      simp only [e77]
      obtain ⟨n5, hm5, h⟩ : ∃ n5 : ((List (List c6)) × Int) → Hp → Prop, (∀ s' H', n5 s' H' → ad s' H' ∧ q s' < q (a2p, a1i)) ∧ V7 x0.v7 (x0.v7.n : Int) (d8.mk x0) x0 a2p a1i H n5 K := ⟨_, fun _ _ h => h, bo (a2p, a1i) H (fun s' H' => ad s' H' ∧ q s' < q (a2p, a1i)) bp (fun _ _ a b => ⟨a, b⟩)⟩
      unfold b5z
      unfold V7 at h
      refine c5 (v8 _ _ _ _ _ _) ?_
      refine d6 h (fun _ h => ?_) (fun _ h => ?_)
      ·obtain ⟨bq, br, r, af, h⟩ := h
       obtain ⟨dg, dh, bs, af⟩ := af
       refine c5 (a0X bs _ _ _ _ bq br) ?_
       refine c7 (ldA (vs := (f6 r)) Tryd.isAgg46 Tryd.sizeOf46 rfl (I.atH af)) ?_
       refine o3 I Tryd.zeroValue46 (cs := [(vi 0), (vi 0), (vi 0), (vi 0), (vi 0), (vi 0), (vi 0), (vi 0), (vi 0), (vi 0)]) rfl fun di dj bt dk => ?_
       refine o8 bt Tryd.sizeOf46 (vs := (f6 r)) fun dl ag dm => ?_
       refine c7 (ldA Tryd.isAgg71 Tryd.sizeOf71 rfl ((ag.bring 1).at1 (o := 0) (vs := [(Value.slice (d8.mk x0).m7.p7.a (d8.mk x0).m7.p7.n (d8.mk x0).m7.p7.c), (vi (d8.mk x0).m7.r8), (Value.slice (d8.mk x0).m7.m9.a (d8.mk x0).m7.m9.n (d8.mk x0).m7.m9.c), (vi (d8.mk x0).m7.f4), (vi (d8.mk x0).m7.s7), (Value.slice (d8.mk x0).m7.v7.a (d8.mk x0).m7.v7.n (d8.mk x0).m7.v7.c)]) (nb rfl) rfl)) ?_
       refine c7 (lW Tryd.isAgg46 Tryd.sizeOf46 rfl ag) ?_
       refine f7 Tryd.call21 h ag ?_
       rintro _ ap _ dn aq _ _ ⟨dp, rfl, rfl, h⟩
       refine c5 (N6 _) ?_
       refine o5 h (fun _ h => ?_) (fun _ h => ?_)
       ·exact hR _ ap _ _ aq.drop.drop.drop.drop ⟨92, rfl, rfl, h⟩
       ·refine L5 aq fun dq ah => ?_
        refine d7 T4 ?_
        refine d7 T4 ?_
        refine o4 (l1 Tryd.isAgg3 ah rfl) ?_
        refine o4 (l1 Tryd.isAgg3 ah rfl) ?_
        obtain ⟨y, ar, bu, h⟩ := h
        obtain ⟨dr, au, ds, dt, bv, j, k, bw, bz, du, m⟩ := RowsL.open_ b4C (ah.bring 3) bu
        obtain ⟨dv, dw, ai, dx⟩ := j.addr k
        refine d7 (a9w ai _ _ _ _ y (j.lt y k)) ?_
        refine o4 (ld1 (v := (vs au)) Tryd.isAgg28 (j.atW m ai k)) ?_
        refine o4 (lW Tryd.isAgg46 Tryd.sizeOf46 rfl (m.bring 3)) ?_
        refine X8 (e := 46) (c := f6) (xs := [r]) m (b3L _ _ _ _ _ _ _ _ _ _) rfl rfl a1X a1Y (nb rfl) fun dy dz ea ca z aj => ?_
        refine ⟨(aj _ (RowL.b5f j m ai)), (aj _ (m.bring 3).lt1), (aj _ (m.bring 3).lt1), ?_⟩
        obtain ⟨cb, h⟩ := h
        refine b5q (s := au) (xs := ar) (z.bring 2) bw (ca.srcO ((z.bring 2).bring 1)) cb fun cc cd eb ce cf cg => ?_
        refine ⟨(cg _ ((z.bring 2).bring 4).lt1 (Inv.b1E (((z.bring 2).bring 4).bring 1))), ?_⟩
        obtain ⟨ec, ed, av, ee⟩ := j.addr k
        refine d7 (a9w av _ _ _ _ y (j.lt y k)) ?_
        refine a5B (x := cc) ((cf.bring 1).drop.bring 1) j av (List.getElem?_eq_some_iff.1 k).1 Tryd.sizeOf28 rfl fun ch ef ci cj eg => ?_
        refine c5 (s6 _ _ _ _ _ _) ?_
        exact hn5 _ _ _ (hm5 _ _ h).2 ⟨((a2p.set (r.u9 : Int).toNat (ar ++ [r])), (IntKind.wrap .i64 (a1i + 1))), ap, (ch ++ (cd ++ bv)), rfl, rfl, (RowsL.b5e ci ce bz), ((((((cj.bring 2).bring 2).bring 2).b7E.bring 1).drop.bring 2).bring 2), (hm5 _ _ h).1⟩
      ·exact hx2 _ _ (hj2 a2p Fs6l5 H _ b4C (((I.bring 2).bring 2).bring 2) h)
    refine p8 fun j1 hx1 => ?_
    refine c5 a7n ?_
    refine c7 (l1 Tryd.isAgg27 f rfl) ?_
    refine c5 (a2y _ _ _) ?_
    refine a2v (σ := Int) (fun a4f => [(vi a4f)]) (fun a4f => [bx i 30 (j6 x0)]) h rfl f ?_
    rintro a4f H eh w next6 n6 aw I h hn6
    simp only [List.map_cons, List.map_nil, List.cons.injEq, and_true] at aw
    have e51 := aw
    simp only [e51]
    unfold b5A
    unfold a1t at h
    refine c5 (v8 _ _ _ _ _ _) ?_
    refine d6 h (fun _ h => ?_) (fun _ h => ?_)
    ·obtain ⟨ck, cl, ax, ak, h⟩ := h
     obtain ⟨ei, ej, cm, ak⟩ := ak
     refine c5 (a2z cm _ _ _ _ ck cl) ?_
     refine c7 (ldA (vs := (g9 ax)) Tryd.isAgg35 Tryd.sizeOf35 rfl (I.atH ak)) ?_
     refine o3 I Tryd.zeroValue35 (cs := [(Value.string ⟨#[]⟩), (vi 0)]) rfl fun ek el cn em => ?_
     refine o8 cn Tryd.sizeOf35 (vs := (g9 ax)) fun en p eo => ?_
     refine c5 a2Y ?_
     refine c7 (l1 Tryd.isAgg3 p rfl) ?_
     refine c5 (v8 _ _ _ _ _ _) ?_
     refine c5 (Pu.g fun hb => by have d := hb; with_reducible exact a2Y) ?_
     refine c7 (Ld.g fun hb => by have d := hb; simp only [f8 d]; exact (l1 Tryd.isAgg3 p rfl)) ?_
     refine c5 (Pu.g fun hb => by have d := hb; simp only [f8 d]; with_reducible exact (O8 _ _ _ _ _ _)) ?_
     refine c5 (F8 _ _) ?_
     refine o5 h (fun _ h => ?_) (fun _ h => ?_)
     ·exact hR _ H _ _ p.drop.drop ⟨92, rfl, rfl, h⟩
     ·refine c5 (s6 _ _ _ _ _ _) ?_
      exact hn6 (IntKind.wrap .i64 (a4f + 1)) _ _ h p.drop
    ·exact hx1 _ _ (hj1 H _ I h)
def a1R (x0 : m6) (H : Hp) (K : Sl → Int → Hp → Prop) : Prop :=
 a3C x0 2 H (fun a b c =>
 K a b c)
theorem a7N (x0 : m6) {H : Hp} {K : Sl → Int → Hp → Prop} (h : a1R x0 H K) : a3X x0 H K := by
 refine Ct.of fun w0 w ps0 H0 R E I hR => b9D ?_
 unfold a1R at h
 unfold F11
 refine A5 I (cs := (p9 x0)) rfl fun f g a i => ?_
 refine c7 (lW Tryd.isAgg41 Tryd.sizeOf41 rfl a) ?_
 refine f7 Tryd.call18 h a ?_
 rintro _ c _ j d _ _ ⟨e, b, rfl, rfl, h⟩
 refine c5 (j7 _ _ _ rfl) ?_
 refine c5 (j7 _ _ (vi b) rfl) ?_
 exact hR _ c _ _ d.drop ⟨e, b, rfl, rfl, h⟩
def Z3 (x0 : d3) (a : (List c6)) (x1 : c6) (H : Hp) (K : d3 → (List c6) → Hp → Prop) : Prop :=
 (a.length + ([x1] : List c6).length) * 81 ≤ 140737488355328 ∧
 K (c8 x0) (a ++ [x1]) H
theorem a5x (x0 : d3) (a : (List c6)) (x1 : c6) {H : Hp} {K : d3 → (List c6) → Hp → Prop} (h : Z3 x0 a x1 H K) : r6 x0 a x1 H K := by
 intro g0 f r g
 refine Ct.of fun w0 w ps0 H0 R E I hR => b9X ?_
 unfold Z3 at h
 unfold F31
 refine A5 I (cs := (f6 x1)) rfl fun t u i v => ?_
 refine L5 i fun y b => ?_
 refine d7 (p5 _) ?_
 refine d7 E7 ?_
 refine d7 M8 ?_
 refine o4 (l1 Tryd.isAgg28 (b.bring 1) rfl) ?_
 refine o4 (lW Tryd.isAgg46 Tryd.sizeOf46 rfl b) ?_
 refine X8 (e := 46) (c := f6) (xs := [x1]) b (b3L _ _ _ _ _ _ _ _ _ _) rfl rfl a1X a1Y (nb rfl) fun z aa ab j d k => ?_
 refine ⟨(k _ (b.bring 1).lt1), ?_⟩
 obtain ⟨l, h⟩ := h
 refine b5q (s := f) (xs := a) (d.bring 3) g (j.srcO ((d.bring 3).bring 1)) l fun m n ac o p ad => ?_
 refine d7 (p5 _) ?_
 refine d7 E7 ?_
 refine d7 M8 ?_
 refine E5 ((p.bring 1).drop.bring 2) Tryd.sizeOf28 fun ae q af => ?_
 exact hR _ H _ _ (((q.bring 2).drop.bring 1).bring 1) ⟨(c8 x0), (a ++ [x1]), m, n, rfl, rfl, o, h⟩
def U8 (x0 : d3) (a : (List c6)) (x1 : Sl) (x2 : Int) (H : Hp) (K : Int → d3 → (List c6) → Hp → Prop) : Prop :=
 ((x1.n : Int) = 0 →
 K x2 (c8 x0) a H) ∧
 (¬ ((x1.n : Int) = 0) →
 v2 (c8 x0) a H (fun b c d e =>
 K b (c8 c) d e))
theorem a4U (x0 : d3) (a : (List c6)) (x1 : Sl) (x2 : Int) {H : Hp} {K : Int → d3 → (List c6) → Hp → Prop} (h : U8 x0 a x1 x2 H K) : G3 x0 a x1 x2 H K := by
 intro g0 b c d
 refine Ct.of fun w0 w ps0 H0 R E I hR => b9Y ?_
 unfold U8 at h
 unfold F32
 refine c5 (Z8 _ _ _) ?_
 refine c5 (f9 _ _ _ _ _ _) ?_
 refine d6 h (fun _ h => ?_) (fun _ h => ?_)
 ·exact hR _ H _ _ ((I.bring 1).bring 1) ⟨x2, (c8 x0), a, b, c, rfl, rfl, d, h⟩
 ·refine f7 Tryd.call12 (h g0 b c d) ((I.bring 1).bring 1) ?_
  rintro _ e _ n f _ _ ⟨g, i, j, k, l, rfl, rfl, m, h⟩
  exact hR _ e _ _ ((f.bring 1).bring 1) ⟨g, (c8 i), j, k, l, rfl, rfl, m, h⟩
def Z4 (x0 : d3) (b : (List c6)) (x1 : o9) (x2 : Int) (x3 : Int) (x4 : Int) (H : Hp) (K : d3 → (List c6) → Hp → Prop) : Prop :=
 (x1.d4 = 1 →
 C6 x2 x3 1 H (fun r s =>
 r6 (c8 x0) b r s (fun t u v =>
 K (c8 t) u v))) ∧
 (¬ (x1.d4 = 1) →
 (x1.d4 = 2 →
 C6 x2 x4 1 H (fun y z =>
 r6 (c8 x0) b y z (fun aa ab ac =>
 K (c8 aa) ab ac))) ∧
 (¬ (x1.d4 = 2) →
 (x1.d4 = 4 →
 (0 : Int) ≤ 0 ∧ (0 : Int) < x1.r9.n ∧ ∃ c : o9, EltH H x1.r9 0 4 (l7 c) ∧
 s9 (c8 x0) b c x2 x4 x3 H (fun ad ae af =>
 K (c8 ad) ae af)) ∧
 (¬ (x1.d4 = 4) →
 (x1.d4 = 5 →
 v2 (c8 x0) b H (fun d ag ah e =>
 (0 : Int) ≤ 0 ∧ (0 : Int) < x1.r9.n ∧ ∃ f : o9, EltH e x1.r9 0 4 (l7 f) ∧
 s9 (c8 ag) ah f x2 d x4 e (fun ai aj g =>
 (0 : Int) ≤ 1 ∧ (1 : Int) < x1.r9.n ∧ ∃ i : o9, EltH g x1.r9 1 4 (l7 i) ∧
 s9 (c8 ai) aj i d x3 x4 g (fun ak al am =>
 K (c8 ak) al am)))) ∧
 (¬ (x1.d4 = 5) →
 (x1.d4 = 6 →
 v2 (c8 x0) b H (fun j an ao k =>
 (0 : Int) ≤ 0 ∧ (0 : Int) < x1.r9.n ∧ ∃ l : o9, EltH k x1.r9 0 4 (l7 l) ∧
 s9 (c8 an) ao l x2 x3 j k (fun ap aq m =>
 (0 : Int) ≤ 1 ∧ (1 : Int) < x1.r9.n ∧ ∃ o : o9, EltH m x1.r9 1 4 (l7 o) ∧
 s9 (c8 ap) aq o j x3 x4 m (fun ar au av =>
 K (c8 ar) au av)))) ∧
 (¬ (x1.d4 = 6) →
 L9 (c8 x0) b x1.i8 x2 0 H (fun p q aw ax ay az =>
 C6 aw x3 12 az (fun a ba =>
 r6 (c8 ax) ay (c6.mk a.u9 a.fTo a.d4 a.a0W a.Q1 x1.fOp p q) ba (fun bb bc bd =>
 a0j x1.fOp bd (fun be bf =>
 r6 (c8 bb) bc (c6.mk a.u9 x4 a.d4 a.a0W a.Q1 be p q) bf (fun bg bh bi =>
 K (c8 bg) bh bi))))))))))
theorem a5y (x0 : d3) (t : (List c6)) (x1 : o9) (x2 : Int) (x3 : Int) (x4 : Int) {H : Hp} {K : d3 → (List c6) → Hp → Prop} (h : Z4 x0 t x1 x2 x3 x4 H K) : s9 x0 t x1 x2 x3 x4 H K := by
 intro g0 e f g
 refine Ct.of fun w0 w ps0 H0 R E I hR => b9Z ?_
 unfold Z4 at h
 unfold F33
 refine A5 I (cs := (l7 x1)) rfl fun dz ea b eb => ?_
 refine c5 a7m ?_
 refine c7 (l1 Tryd.isAgg3 b rfl) ?_
 refine c5 (f9 _ _ _ _ _ _) ?_
 refine d6 h (fun _ h => ?_) (fun _ h => ?_)
 ·refine f7 Tryd.call29 h b ?_
  rintro _ _ _ ec ab _ _ ⟨ed, rfl, rfl, h⟩
  refine f7 Tryd.call31 (h g0 e f g) ((ab.bring 2).bring 2) ?_
  rintro _ ac _ ee ad _ _ ⟨ae, af, ag, ah, rfl, rfl, ai, h⟩
  exact hR _ ac _ _ (((ad.bring 2).drop.bring 1).bring 1) ⟨(c8 ae), af, ag, ah, rfl, rfl, ai, h⟩
 ·refine c5 (f9 _ _ _ _ _ _) ?_
  refine d6 h (fun _ h => ?_) (fun _ h => ?_)
  ·refine f7 Tryd.call29 h b ?_
   rintro _ _ _ ef aj _ _ ⟨eg, rfl, rfl, h⟩
   refine f7 Tryd.call31 (h g0 e f g) ((aj.bring 2).bring 2) ?_
   rintro _ ak _ eh al _ _ ⟨am, an, ao, ap, rfl, rfl, aq, h⟩
   exact hR _ ak _ _ (((al.bring 2).drop.bring 1).bring 1) ⟨(c8 am), an, ao, ap, rfl, rfl, aq, h⟩
  ·refine c5 (f9 _ _ _ _ _ _) ?_
   refine d6 h (fun _ h => ?_) (fun _ h => ?_)
   ·refine c5 a0T ?_
    refine c7 (l1 Tryd.isAgg36 b rfl) ?_
    obtain ⟨ar, au, av, j, h⟩ := h
    obtain ⟨ei, ej, aw, j⟩ := j
    refine c5 (W0 aw _ _ _ _ ar au) ?_
    refine c7 (ldA (vs := (l7 av)) Tryd.isAgg89 Tryd.sizeOf89 rfl (b.atH j)) ?_
    refine f7 Tryd.call33 (h g0 e f g) ((b.bring 2).bring 2) ?_
    rintro _ ax _ ek ay _ _ ⟨az, ba, bb, bc, rfl, rfl, bd, h⟩
    exact hR _ ax _ _ (((ay.bring 2).drop.bring 1).bring 1) ⟨(c8 az), ba, bb, bc, rfl, rfl, bd, h⟩
   ·refine c5 (f9 _ _ _ _ _ _) ?_
    refine d6 h (fun _ h => ?_) (fun _ h => ?_)
    ·refine f7 Tryd.call12 (h g0 e f g) ((b.bring 2).bring 2) ?_
     rintro _ _ _ el k _ _ ⟨em, en, eo, be, bf, rfl, rfl, bg, h⟩
     refine c5 a0T ?_
     refine c7 (l1 Tryd.isAgg36 (k.bring 2) rfl) ?_
     obtain ⟨bh, bi, bj, l, h⟩ := h
     obtain ⟨ep, eq, bk, l⟩ := l
     refine c5 (W0 bk _ _ _ _ bh bi) ?_
     refine c7 (ldA (vs := (l7 bj)) Tryd.isAgg89 Tryd.sizeOf89 rfl (k.atH l)) ?_
     refine f7 Tryd.call33 (h g0 be bf bg) ((k.bring 1).bring 1) ?_
     rintro _ _ _ er m _ _ ⟨es, et, bl, bm, rfl, rfl, bn, h⟩
     refine c5 a0T ?_
     refine c7 (l1 Tryd.isAgg36 (m.bring 2) rfl) ?_
     obtain ⟨bo, bp, bq, n, h⟩ := h
     obtain ⟨eu, ev, br, n⟩ := n
     refine c5 (W0 br _ _ _ _ bo bp) ?_
     refine c7 (ldA (vs := (l7 bq)) Tryd.isAgg89 Tryd.sizeOf89 rfl (m.atH n)) ?_
     refine f7 Tryd.call33 (h g0 bl bm bn) ((m.bring 1).bring 1) ?_
     rintro _ bs _ ew bt _ _ ⟨bu, bv, bw, bz, rfl, rfl, ca, h⟩
     exact hR _ bs _ _ (((bt.bring 2).drop.bring 1).bring 1) ⟨(c8 bu), bv, bw, bz, rfl, rfl, ca, h⟩
    ·refine c5 (f9 _ _ _ _ _ _) ?_
     refine d6 h (fun _ h => ?_) (fun _ h => ?_)
     ·refine f7 Tryd.call12 (h g0 e f g) ((b.bring 2).bring 2) ?_
      rintro _ _ _ ex p _ _ ⟨ey, ez, fa, cb, cc, rfl, rfl, cd, h⟩
      refine c5 a0T ?_
      refine c7 (l1 Tryd.isAgg36 (p.bring 2) rfl) ?_
      obtain ⟨ce, cf, cg, q, h⟩ := h
      obtain ⟨fb, fc, ch, q⟩ := q
      refine c5 (W0 ch _ _ _ _ ce cf) ?_
      refine c7 (ldA (vs := (l7 cg)) Tryd.isAgg89 Tryd.sizeOf89 rfl (p.atH q)) ?_
      refine f7 Tryd.call33 (h g0 cb cc cd) ((p.bring 1).bring 1) ?_
      rintro _ _ _ fd r _ _ ⟨fe, ff, ci, cj, rfl, rfl, ck, h⟩
      refine c5 a0T ?_
      refine c7 (l1 Tryd.isAgg36 (r.bring 2) rfl) ?_
      obtain ⟨cl, cm, cn, s, h⟩ := h
      obtain ⟨fg, fh, co, s⟩ := s
      refine c5 (W0 co _ _ _ _ cl cm) ?_
      refine c7 (ldA (vs := (l7 cn)) Tryd.isAgg89 Tryd.sizeOf89 rfl (r.atH s)) ?_
      refine f7 Tryd.call33 (h g0 ci cj ck) ((r.bring 1).bring 1) ?_
      rintro _ cp _ fi cq _ _ ⟨cr, ct, cu, cv, rfl, rfl, cw, h⟩
      exact hR _ cp _ _ (((cq.bring 2).drop.bring 1).bring 1) ⟨(c8 cr), ct, cu, cv, rfl, rfl, cw, h⟩
     ·refine c5 a5p ?_
      refine c7 (l1 Tryd.isAgg23 b rfl) ?_
      refine f7 Tryd.call30 (h g0 e f g) ((b.bring 2).bring 2) ?_
      rintro _ _ _ fj cx _ _ ⟨c, d, cy, fk, fl, cz, da, rfl, rfl, db, h⟩
      refine c5 (j7 _ _ _ rfl) ?_
      refine c5 (j7 _ _ _ rfl) ?_
      refine c5 (j7 _ _ (vi cy) rfl) ?_
      refine o3 cx Tryd.zeroValue44 (cs := [(vi 0), (vi 0)]) rfl fun fm fn dc fo => ?_
      refine o3 dc Tryd.zeroValue44 (cs := [(vi 0), (vi 0)]) rfl fun fp fq dd fs => ?_
      refine o8 (dd.bring 1) Tryd.sizeOf44 (vs := (j9 c)) fun ft de fu => ?_
      refine o8 (de.bring 1) Tryd.sizeOf44 (vs := (j9 d)) fun fv df fw => ?_
      refine f7 Tryd.call29 h df ?_
      rintro _ _ _ fx dg _ _ ⟨a, rfl, rfl, h⟩
      refine o3 dg Tryd.zeroValue46 (cs := [(vi 0), (vi 0), (vi 0), (vi 0), (vi 0), (vi 0), (vi 0), (vi 0), (vi 0), (vi 0)]) rfl fun fy fz dh ga => ?_
      refine o8 dh Tryd.sizeOf46 (vs := (f6 a)) fun gb di gc => ?_
      refine L5 di fun gd i => ?_
      refine d7 a3U ?_
      refine o4 (l1 Tryd.isAgg3 (i.bring 5) rfl) ?_
      refine d7 a1C ?_
      refine o4 (lW Tryd.isAgg44 Tryd.sizeOf44 rfl (i.bring 2)) ?_
      refine o4 (lW Tryd.isAgg44 Tryd.sizeOf44 rfl (i.bring 1)) ?_
      refine E5 i Tryd.sizeOf3 fun ge u v => ?_
      refine ⟨(v _ (Inv.b1A ((i.bring 1).bring 1))), (v _ (Inv.b1A ((i.bring 2).bring 1))), ?_⟩
      refine d7 X9 ?_
      refine Z9 u Tryd.sizeOf44 (vs := (j9 c)) (cs' := [(vi a.u9), (vi a.fTo), (vi a.d4), (vi a.a0W), (vi a.Q1), (vi x1.fOp), (vi c.s8), (vi c.p6), (vi a.fB.s8), (vi a.fB.p6)]) rfl rfl (nb rfl) rfl rfl fun gf dj dk => ?_
      refine ⟨(dk _ (Inv.b1A ((u.bring 1).bring 1))), ?_⟩
      refine d7 a1A ?_
      refine Z9 dj Tryd.sizeOf44 (vs := (j9 d)) (cs' := [(vi a.u9), (vi a.fTo), (vi a.d4), (vi a.a0W), (vi a.Q1), (vi x1.fOp), (vi c.s8), (vi c.p6), (vi d.s8), (vi d.p6)]) rfl rfl (nb rfl) rfl rfl fun gg y gh => ?_
      refine c7 (ldA Tryd.isAgg46 Tryd.sizeOf46 rfl (y.at1 (o := 0) (vs := [(vi a.u9), (vi a.fTo), (vi a.d4), (vi a.a0W), (vi a.Q1), (vi x1.fOp), (vi c.s8), (vi c.p6), (vi d.s8), (vi d.p6)]) (nb rfl) rfl)) ?_
      refine f7 Tryd.call31 (h g0 cz da db) ((y.bring 4).bring 4) ?_
      rintro _ _ _ gi z _ _ ⟨gj, gk, dl, dm, rfl, rfl, dn, h⟩
      refine c5 a3U ?_
      refine c7 (l1 Tryd.isAgg3 (z.bring 5) rfl) ?_
      refine f7 Tryd.call40 h z ?_
      rintro _ _ _ gl dp _ _ ⟨dq, rfl, rfl, h⟩
      refine c5 a5j ?_
      refine E5 (dp.bring 2) Tryd.sizeOf3 fun gm dr gn => ?_
      refine c5 a1C ?_
      refine E5 dr Tryd.sizeOf3 fun go aa gp => ?_
      refine c7 (ldA Tryd.isAgg46 Tryd.sizeOf46 rfl (aa.at1 (o := 0) (vs := [(vi a.u9), (vi x4), (vi a.d4), (vi a.a0W), (vi a.Q1), (vi dq), (vi c.s8), (vi c.p6), (vi d.s8), (vi d.p6)]) (nb rfl) rfl)) ?_
      refine f7 Tryd.call31 (h g0 dl dm dn) ((aa.bring 2).bring 2) ?_
      rintro _ ds _ gq dt _ _ ⟨du, dv, dw, dx, rfl, rfl, dy, h⟩
      exact hR _ ds _ _ ((((((dt.bring 2).drop.bring 2).drop.bring 2).drop.bring 2).drop.bring 1).bring 1) ⟨(c8 du), dv, dw, dx, rfl, rfl, dy, h⟩
def L2 (b7Z : (List Int)) (b8a : Sl) (b8b : Int) (V9 : Int) (R1 : Sl) (R2 : Int) (R3 : Sl) (R4 : Int) (R5 : Int) (O4 : (List c6)) (a0M : (Option Nat)) (a0N : (Option Nat)) (H : Hp) (n2 : (Int × Sl × Int × Sl × Int × Int × (List c6) × (Option Nat) × (Option Nat)) → Hp → Prop) (K : d3 → (List c6) → Hp → Prop) : Prop :=
 (V9 < b8b →
 (0 : Int) ≤ V9 ∧ (V9 : Int) < b8a.n ∧ ∃ b : l0, EltH H b8a V9 6 (m5 b) ∧
 (0 : Int) ≤ V9 ∧ ∃ c : Int, (b7Z)[(V9 : Int).toNat]? = some c ∧
 (0 : Int) ≤ IntKind.wrap .i64 (V9 + 1) ∧ ∃ d : Int, (b7Z)[(IntKind.wrap .i64 (V9 + 1) : Int).toNat]? = some d ∧
 Y3 (d3.mk (m0.mk R1 R2 R3 R4 R5 (Sl.mk none 0 0)) a0M a0N) O4 b c d H (fun a e f =>
 n2 ((IntKind.wrap .i64 (V9 + 1)), a.fc.p7, a.fc.r8, a.fc.m9, a.fc.f4, a.fc.s7, e, a.fvars, a.farrays) f)) ∧
 (¬ (V9 < b8b) →
 K (d3.mk (m0.mk R1 R2 R3 R4 R5 (Sl.mk none 0 0)) a0M a0N) O4 H)
def L3 (c1f : Sl) (a5b : Int) (a6t : (List Int)) (M0 : Sl) (M1 : Int) (M2 : Sl) (M3 : Int) (M4 : Int) (K3 : (List c6)) (G8 : (Option Nat)) (F3 : (Option Nat)) (H : Hp) (K : d3 → (List c6) → Hp → Prop) : Prop :=
 (a6t.length + ([a5b] : List Int).length) * 9 ≤ 140737488355328 ∧
 TL ((0, M0, M1, M2, M3, M4, K3, G8, F3) : Int × Sl × Int × Sl × Int × Int × (List c6) × (Option Nat) × (Option Nat)) H fun (s : Int × Sl × Int × Sl × Int × Int × (List c6) × (Option Nat) × (Option Nat)) H n2 => L2 (a6t ++ [a5b]) c1f (c1f.n : Int) s.1 s.2.1 s.2.2.1 s.2.2.2.1 s.2.2.2.2.1 s.2.2.2.2.2.1 s.2.2.2.2.2.2.1 s.2.2.2.2.2.2.2.1 s.2.2.2.2.2.2.2.2 H n2 K
def L4 (c2u : Sl) (c2v : Int) (b8c : Int) (a1j : (List Int)) (a2q : Int) (P0 : Sl) (P1 : Int) (P2 : Sl) (P3 : Int) (P4 : Int) (N1 : (List c6)) (a0f : (Option Nat)) (a0g : (Option Nat)) (H : Hp) (n3 : ((List Int) × Int × Sl × Int × Sl × Int × Int × (List c6) × (Option Nat) × (Option Nat)) → Hp → Prop) (K : d3 → (List c6) → Hp → Prop) : Prop :=
 (a2q < b8c →
 v2 (d3.mk (m0.mk P0 P1 P2 P3 P4 (Sl.mk none 0 0)) a0f a0g) N1 H (fun b a c d =>
 (a1j.length + ([b] : List Int).length) * 9 ≤ 140737488355328 ∧
 n3 ((a1j ++ [b]), (IntKind.wrap .i64 (a2q + 1)), a.fc.p7, a.fc.r8, a.fc.m9, a.fc.f4, a.fc.s7, c, a.fvars, a.farrays) d)) ∧
 (¬ (a2q < b8c) →
 L3 c2u c2v a1j P0 P1 P2 P3 P4 N1 a0f a0g H K)
def X4 (x0 : d3) (a : (List c6)) (x1 : Sl) (x2 : Int) (x3 : Int) (H : Hp) (K : d3 → (List c6) → Hp → Prop) : Prop :=
 ((x1.n : Int) = 0 →
 K (c8 x0) a H) ∧
 (¬ ((x1.n : Int) = 0) →
 TL (([x2], 0, x0.fc.p7, x0.fc.r8, x0.fc.m9, x0.fc.f4, x0.fc.s7, a, x0.fvars, x0.farrays) : (List Int) × Int × Sl × Int × Sl × Int × Int × (List c6) × (Option Nat) × (Option Nat)) H fun (s : (List Int) × Int × Sl × Int × Sl × Int × Int × (List c6) × (Option Nat) × (Option Nat)) H n3 => L4 x1 x3 (IntKind.wrap .i64 ((x1.n : Int) - 1)) s.1 s.2.1 s.2.2.1 s.2.2.2.1 s.2.2.2.2.1 s.2.2.2.2.2.1 s.2.2.2.2.2.2.1 s.2.2.2.2.2.2.2.1 s.2.2.2.2.2.2.2.2.1 s.2.2.2.2.2.2.2.2.2 H n3 K)
theorem a5f (x0 : d3) (k : (List c6)) (x1 : Sl) (x2 : Int) (x3 : Int) {H : Hp} {K : d3 → (List c6) → Hp → Prop} (h : X4 x0 k x1 x2 x3 H K) : D4 x0 k x1 x2 x3 H K := by
 intro g0 z aa ab
 refine Ct.of fun w0 w ps0 H0 R E I hR => b9F ?_
 unfold X4 at h
 unfold F13
 refine c5 (Z8 _ _ _) ?_
 refine c5 (f9 _ _ _ _ _ _) ?_
 refine d6 h (fun _ h => ?_) (fun _ h => ?_)
 ·exact hR _ H _ _ ((I.bring 1).bring 1) ⟨(c8 x0), k, z, aa, rfl, rfl, ab, h⟩
 ·refine X8 (e := 3) (c := C9) (xs := [x2]) I (a5D _) rfl rfl a2w a2x (nb rfl) fun ak al cb am an cc => ?_
  have hj1 : ∀ (a6t : (List Int)) (M0 : Sl) (M1 : Int) (M2 : Sl) (M3 : Int) (M4 : Int) (K3 : (List c6)) (G8 : (Option Nat)) (F3 : (Option Nat)) (b1q : Sl) (Fs8j1 : Frag) (T9 : Sl) (U0 : Frag) (H : Hp) (w : World) (_ : RowL 3 1 C9 b1q a6t Fs8j1) (_ : RowL 46 10 f6 T9 K3 U0) (_ : Inv w0 ps0 H0 H [bx g0 59 [(vs M0), (vi M1), (vs M2), (vi M3), (vi M4), (vs T9), (Value.map G8), (Value.map F3)], Fs8j1, U0] w) (_ : L3 x1 x3 a6t M0 M1 M2 M3 M4 K3 G8 F3 H K), b1X (Value.pointer (some ⟨g0, 0, none⟩)) (vs x1) (vi x3) (vs b1q) w R E := by
   intro a6t M0 M1 M2 M3 M4 K3 G8 F3 b1q Fs8j1 T9 U0 H w c2f a7x I h
   unfold b1X
   intro _
   unfold L3 at h
   refine X8 (e := 3) (c := C9) (xs := [x3]) I (a5D _) rfl rfl a2w a2x (nb rfl) fun cd ce cf ao ac cg => ?_
   obtain ⟨ap, h⟩ := h
   refine a8k (s := b1q) (xs := a6t) (ac.bring 2) c2f (ao.srcO ((ac.bring 2).bring 1)) ap fun ch aq ci g ar cj => ?_
   refine c5 (Z8 _ _ _) ?_
   obtain ⟨o, i, au, av⟩ := h
   refine D1 (J := fun n l w => ∃ (s : Int × Sl × Int × Sl × Int × Int × (List c6) × (Option Nat) × (Option Nat)) (H : Hp) (a4g : Sl) (a4h : Frag) , n = i s ∧ l = (match s with | (V9, R1, R2, R3, R4, R5, O4, a0M, a0N) => [(vi V9)]) ∧ (match s with | (V9, R1, R2, R3, R4, R5, O4, a0M, a0N) => RowL 46 10 f6 a4g O4 a4h) ∧ (match s with | (V9, R1, R2, R3, R4, R5, O4, a0M, a0N) => Inv w0 ps0 H0 H [bx g0 59 [(vs R1), (vi R2), (vs R3), (vi R4), (vi R5), (vs a4g), (Value.map a0M), (Value.map a0N)], aq, a4h] w) ∧ o s H) ⟨_, (0, M0, M1, M2, M3, M4, K3, G8, F3), H, T9, U0, rfl, rfl, a7x, ((((ar.bring 1).drop.bring 2).bring 1).bring 2), au⟩ ?_
   rintro ck cl w next2 ⟨⟨V9, R1, R2, R3, R4, R5, O4, a0M, a0N⟩, H, a4g, a4h, rfl, p, a7O, I, aw⟩ hn2
   dsimp only at p I a7O
   simp only [List.map_cons, List.map_nil, List.cons.injEq, and_true] at p
   have e33 := p
   simp only [e33]
   obtain ⟨n2, hm2, h⟩ : ∃ n2 : (Int × Sl × Int × Sl × Int × Int × (List c6) × (Option Nat) × (Option Nat)) → Hp → Prop, (∀ s' H', n2 s' H' → o s' H' ∧ i s' < i (V9, R1, R2, R3, R4, R5, O4, a0M, a0N)) ∧ L2 (a6t ++ [x3]) x1 (x1.n : Int) V9 R1 R2 R3 R4 R5 O4 a0M a0N H n2 K := ⟨_, fun _ _ h => h, av (V9, R1, R2, R3, R4, R5, O4, a0M, a0N) H (fun s' H' => o s' H' ∧ i s' < i (V9, R1, R2, R3, R4, R5, O4, a0M, a0N)) aw (fun _ _ a b => ⟨a, b⟩)⟩
   unfold b5w
   unfold L2 at h
   refine c5 (v8 _ _ _ _ _ _) ?_
   refine d6 h (fun _ h => ?_) (fun _ h => ?_)
   ·obtain ⟨ax, ay, ad, q, h⟩ := h
    obtain ⟨cm, cn, az, q⟩ := q
    refine c5 (a9t az _ _ _ _ ax ay) ?_
    refine c7 (ldA (vs := (m5 ad)) Tryd.isAgg39 Tryd.sizeOf39 rfl (I.atH q)) ?_
    refine o3 I Tryd.zeroValue39 (cs := [(vi 0), (Value.string ⟨#[]⟩), (Value.slice none 0 0), (Value.slice none 0 0), (Value.slice none 0 0), (Value.slice none 0 0)]) rfl fun co cp ba cq => ?_
    refine o8 ba Tryd.sizeOf39 (vs := (m5 ad)) fun cr bb ct => ?_
    refine L5 bb fun cu m => ?_
    obtain ⟨ae, bc, r, h⟩ := h
    obtain ⟨cv, cw, af, cx⟩ := g.addr r
    refine d7 (a0i af _ _ _ _ ae (g.lt ae r)) ?_
    refine d7 (s6 _ _ _ _ _ _) ?_
    obtain ⟨ag, bd, t, h⟩ := h
    obtain ⟨cy, cz, ah, da⟩ := g.addr t
    refine d7 (a0i ah _ _ _ _ ag (g.lt ag t)) ?_
    refine o4 (lW Tryd.isAgg39 Tryd.sizeOf39 rfl m) ?_
    refine o4 (ld1 (v := (vi bc)) Tryd.isAgg3 (g.atW (m.bring 2) af r)) ?_
    refine o4 (ld1 (v := (vi bd)) Tryd.isAgg3 (g.atW (m.bring 2) ah t)) ?_
    refine f7 Tryd.call19 (h g0 a4g a4h a7O) ((m.bring 3).bring 2) ?_
    rintro _ be _ db bf _ _ ⟨d, bg, bh, bi, rfl, rfl, bj, h⟩
    refine c5 (s6 _ _ _ _ _ _) ?_
    exact hn2 _ _ _ (hm2 _ _ h).2 ⟨((IntKind.wrap .i64 (V9 + 1)), d.fc.p7, d.fc.r8, d.fc.m9, d.fc.f4, d.fc.s7, bg, d.fvars, d.farrays), be, bh, bi, rfl, rfl, bj, ((((bf.bring 2).drop.bring 1).bring 2).bring 2), (hm2 _ _ h).1⟩
   ·exact hR _ H _ _ (((I.bring 1).drop.bring 1).bring 1) ⟨(d3.mk (m0.mk R1 R2 R3 R4 R5 (Sl.mk none 0 0)) a0M a0N), O4, a4g, a4h, rfl, rfl, a7O, h⟩
  refine p8 fun j1 hx1 => ?_
  refine c5 (Z8 _ _ _) ?_
  refine c5 (a5L _ _ _ _ _ _) ?_
  obtain ⟨u, j, bk, bl⟩ := h
  refine D1 (J := fun n l w => ∃ (s : (List Int) × Int × Sl × Int × Sl × Int × Int × (List c6) × (Option Nat) × (Option Nat)) (H : Hp) (b0g : Sl) (Fs8l3 : Frag) (a4i : Sl) (a4j : Frag) , n = j s ∧ l = (match s with | (a1j, a2q, P0, P1, P2, P3, P4, N1, a0f, a0g) => [(vs b0g), (vi a2q)]) ∧ (match s with | (a1j, a2q, P0, P1, P2, P3, P4, N1, a0f, a0g) => RowL 3 1 C9 b0g a1j Fs8l3) ∧ (match s with | (a1j, a2q, P0, P1, P2, P3, P4, N1, a0f, a0g) => RowL 46 10 f6 a4i N1 a4j) ∧ (match s with | (a1j, a2q, P0, P1, P2, P3, P4, N1, a0f, a0g) => Inv w0 ps0 H0 H [bx g0 59 [(vs P0), (vi P1), (vs P2), (vi P3), (vi P4), (vs a4i), (Value.map a0f), (Value.map a0g)], Fs8l3, a4j] w) ∧ u s H) ⟨_, ([x2], 0, x0.fc.p7, x0.fc.r8, x0.fc.m9, x0.fc.f4, x0.fc.s7, k, x0.fvars, x0.farrays), H, ak, al, z, aa, rfl, rfl, am, ab, (((an.bring 2).bring 1).bring 2), bk⟩ ?_
  rintro dc dd w next3 ⟨⟨a1j, a2q, P0, P1, P2, P3, P4, N1, a0f, a0g⟩, H, b0g, Fs8l3, a4i, a4j, rfl, y, b4D, a7P, I, bm⟩ hn3
  dsimp only at y I b4D a7P
  simp only [List.map_cons, List.map_nil, List.cons.injEq, and_true] at y
  obtain ⟨e8, e19⟩ := y
  simp only [e8, e19]
  obtain ⟨n3, hm3, h⟩ : ∃ n3 : ((List Int) × Int × Sl × Int × Sl × Int × Int × (List c6) × (Option Nat) × (Option Nat)) → Hp → Prop, (∀ s' H', n3 s' H' → u s' H' ∧ j s' < j (a1j, a2q, P0, P1, P2, P3, P4, N1, a0f, a0g)) ∧ L4 x1 x3 (IntKind.wrap .i64 ((x1.n : Int) - 1)) a1j a2q P0 P1 P2 P3 P4 N1 a0f a0g H n3 K := ⟨_, fun _ _ h => h, bl (a1j, a2q, P0, P1, P2, P3, P4, N1, a0f, a0g) H (fun s' H' => u s' H' ∧ j s' < j (a1j, a2q, P0, P1, P2, P3, P4, N1, a0f, a0g)) bm (fun _ _ a b => ⟨a, b⟩)⟩
  unfold b5x
  unfold L4 at h
  refine c5 (v8 _ _ _ _ _ _) ?_
  refine d6 h (fun _ h => ?_) (fun _ h => ?_)
  ·refine f7 Tryd.call12 (h g0 a4i a4j a7P) ((I.bring 2).bring 1) ?_
   rintro _ bn _ de bo _ _ ⟨ai, f, bp, bq, br, rfl, rfl, bs, h⟩
   refine X8 (e := 3) (c := C9) (xs := [ai]) bo (a5D _) rfl rfl a2w a2x (nb rfl) fun df dg dh bt aj di => ?_
   obtain ⟨bu, h⟩ := h
   refine a8k (s := b0g) (xs := a1j) (aj.bring 3) b4D (bt.srcO ((aj.bring 3).bring 1)) bu fun bv bw dj bz ca dk => ?_
   refine c5 (s6 _ _ _ _ _ _) ?_
   exact hn3 _ _ _ (hm3 _ _ h).2 ⟨((a1j ++ [ai]), (IntKind.wrap .i64 (a2q + 1)), f.fc.p7, f.fc.r8, f.fc.m9, f.fc.f4, f.fc.s7, bp, f.fvars, f.farrays), bn, bv, bw, bq, br, rfl, rfl, bz, bs, ((((ca.bring 1).drop.bring 2).bring 1).bring 2), (hm3 _ _ h).1⟩
  ·exact hx1 _ _ (hj1 a1j P0 P1 P2 P3 P4 N1 a0f a0g b0g Fs8l3 a4i a4j H _ b4D a7P (((I.bring 2).bring 2).bring 2) h)
def t8 (Q8 : (List d2)) (H : Hp) (K : Sl → Hp → Prop) : Prop :=
 ∀ (B7 : Sl) (a : Hp), Hle H a → SlH a 1 m8 B7 Q8 → B7.n ≤ B7.c →
 K B7 a
def u0 (Y9 : Sl) (a0u : Int) (r7 : (List d2)) (o7 : Int) (H : Hp) (n2 : ((List d2) × Int) → Hp → Prop) (K : Sl → Hp → Prop) : Prop :=
 (o7 < a0u →
 (0 : Int) ≤ o7 ∧ (o7 : Int) < Y9.n ∧ ∃ a : i7, EltH H Y9 o7 2 (g9 a) ∧
 a3Y a H (fun b c =>
 (r7.length + ([b] : List d2).length) * 17 ≤ 140737488355328 ∧
 n2 ((r7 ++ [b]), (IntKind.wrap .i64 (o7 + 1))) c)) ∧
 (¬ (o7 < a0u) →
 t8 r7 H K)
def B3 (x0 : Sl) (H : Hp) (K : Sl → Hp → Prop) : Prop :=
 TL (([], 0) : (List d2) × Int) H fun (s : (List d2) × Int) H n2 => u0 x0 (x0.n : Int) s.1 s.2 H n2 K
theorem T0 (x0 : Sl) {H : Hp} {K : Sl → Hp → Prop} (h : B3 x0 H K) : B0 x0 H K := by
 refine Ct.of fun w0 w ps0 H0 R E I hR => c0w ?_
 unfold B3 at h
 unfold F56
 have hj1 : ∀ (Q8 : (List d2)) (B7 : Sl) (Fs5j1 : Frag) (H : Hp) (w : World) (_ : RowL 126 1 m8 B7 Q8 Fs5j1) (_ : Inv w0 ps0 H0 H [Fs5j1] w) (_ : t8 Q8 H K), b2w (vs B7) w R E := by
  intro Q8 B7 Fs5j1 H w a7z I h
  unfold b2w
  intro _
  unfold t8 at h
  obtain ⟨j, q, r, t, u⟩ := Inv.freezeC I a7z (by decide)
  replace h := h B7 j r t u
  exact hR _ j _ _ q ⟨B7, rfl, rfl, h⟩
 refine p8 fun j1 hx1 => ?_
 refine c5 (a2y _ _ _) ?_
 obtain ⟨f, d, v, y⟩ := h
 refine D1 (J := fun n l w => ∃ (s : (List d2) × Int) (H : Hp) (Q9 : Sl) (Fs5l2 : Frag) , n = d s ∧ l = (match s with | (r7, o7) => [(vs Q9), (vi o7)]) ∧ (match s with | (r7, o7) => RowL 126 1 m8 Q9 r7 Fs5l2) ∧ (match s with | (r7, o7) => Inv w0 ps0 H0 H [Fs5l2] w) ∧ f s H) ⟨_, ([], 0), H, (Sl.mk none 0 0), [], rfl, rfl, (RowL.nil E8 J7), I.nil, v⟩ ?_
 rintro am an w next2 ⟨⟨r7, o7⟩, H, Q9, Fs5l2, rfl, g, a1M, I, z⟩ hn2
 dsimp only at g I a1M
 simp only [List.map_cons, List.map_nil, List.cons.injEq, and_true] at g
 obtain ⟨e5, e10⟩ := g
 simp only [e5, e10]
 obtain ⟨n2, hm2, h⟩ : ∃ n2 : ((List d2) × Int) → Hp → Prop, (∀ s' H', n2 s' H' → f s' H' ∧ d s' < d (r7, o7)) ∧ u0 x0 (x0.n : Int) r7 o7 H n2 K := ⟨_, fun _ _ h => h, y (r7, o7) H (fun s' H' => f s' H' ∧ d s' < d (r7, o7)) z (fun _ _ a b => ⟨a, b⟩)⟩
 unfold b5T
 unfold u0 at h
 refine c5 (v8 _ _ _ _ _ _) ?_
 refine d6 h (fun _ h => ?_) (fun _ h => ?_)
 ·obtain ⟨aa, ab, k, i, h⟩ := h
  obtain ⟨ao, ap, ac, i⟩ := i
  refine c5 (a2z ac _ _ _ _ aa ab) ?_
  refine c7 (ldA (vs := (g9 k)) Tryd.isAgg35 Tryd.sizeOf35 rfl (I.atH i)) ?_
  refine o3 I Tryd.zeroValue35 (cs := [(Value.string ⟨#[]⟩), (vi 0)]) rfl fun aq ar ad au => ?_
  refine o8 ad Tryd.sizeOf35 (vs := (g9 k)) fun av m aw => ?_
  refine c7 (lW Tryd.isAgg35 Tryd.sizeOf35 rfl m) ?_
  refine f7 Tryd.call57 h m ?_
  rintro _ ae _ ax af _ _ ⟨o, rfl, rfl, h⟩
  refine X8 (e := 126) (c := m8) (xs := [o]) af (a7r _) rfl rfl E8 J7 (nb rfl) fun ay az ba ag p bb => ?_
  obtain ⟨ah, h⟩ := h
  refine a6J (s := Q9) (xs := r7) (p.bring 2) a1M (ag.srcO ((p.bring 2).bring 1)) ah fun ai aj bc ak al bd => ?_
  refine c5 (s6 _ _ _ _ _ _) ?_
  exact hn2 _ _ _ (hm2 _ _ h).2 ⟨((r7 ++ [o]), (IntKind.wrap .i64 (o7 + 1))), ae, ai, aj, rfl, rfl, ak, ((al.bring 1).drop.bring 1).drop, (hm2 _ _ h).1⟩
 ·exact hx1 _ _ (hj1 r7 Q9 Fs5l2 H _ a1M I h)
def u1 (Q8 : (List d2)) (H : Hp) (K : Sl → Hp → Prop) : Prop :=
 ∀ (B7 : Sl) (a : Hp), Hle H a → SlH a 1 m8 B7 Q8 → B7.n ≤ B7.c →
 K B7 a
def u4 (Y9 : Sl) (a0u : Int) (r7 : (List d2)) (o7 : Int) (H : Hp) (n2 : ((List d2) × Int) → Hp → Prop) (K : Sl → Hp → Prop) : Prop :=
 (o7 < a0u →
 (0 : Int) ≤ o7 ∧ (o7 : Int) < Y9.n ∧ ∃ a : l0, EltH H Y9 o7 6 (m5 a) ∧
 a3Z a H (fun b c =>
 (r7.length + ([b] : List d2).length) * 17 ≤ 140737488355328 ∧
 n2 ((r7 ++ [b]), (IntKind.wrap .i64 (o7 + 1))) c)) ∧
 (¬ (o7 < a0u) →
 u1 r7 H K)
def B4 (x0 : Sl) (H : Hp) (K : Sl → Hp → Prop) : Prop :=
 TL (([], 0) : (List d2) × Int) H fun (s : (List d2) × Int) H n2 => u4 x0 (x0.n : Int) s.1 s.2 H n2 K
theorem T1 (x0 : Sl) {H : Hp} {K : Sl → Hp → Prop} (h : B4 x0 H K) : q6 x0 H K := by
 refine Ct.of fun w0 w ps0 H0 R E I hR => c0y ?_
 unfold B4 at h
 unfold F58
 have hj1 : ∀ (Q8 : (List d2)) (B7 : Sl) (Fs5j1 : Frag) (H : Hp) (w : World) (_ : RowL 126 1 m8 B7 Q8 Fs5j1) (_ : Inv w0 ps0 H0 H [Fs5j1] w) (_ : u1 Q8 H K), b2x (vs B7) w R E := by
  intro Q8 B7 Fs5j1 H w a7z I h
  unfold b2x
  intro _
  unfold u1 at h
  obtain ⟨j, q, r, t, u⟩ := Inv.freezeC I a7z (by decide)
  replace h := h B7 j r t u
  exact hR _ j _ _ q ⟨B7, rfl, rfl, h⟩
 refine p8 fun j1 hx1 => ?_
 refine c5 (Z8 _ _ _) ?_
 obtain ⟨f, d, v, y⟩ := h
 refine D1 (J := fun n l w => ∃ (s : (List d2) × Int) (H : Hp) (Q9 : Sl) (Fs5l2 : Frag) , n = d s ∧ l = (match s with | (r7, o7) => [(vs Q9), (vi o7)]) ∧ (match s with | (r7, o7) => RowL 126 1 m8 Q9 r7 Fs5l2) ∧ (match s with | (r7, o7) => Inv w0 ps0 H0 H [Fs5l2] w) ∧ f s H) ⟨_, ([], 0), H, (Sl.mk none 0 0), [], rfl, rfl, (RowL.nil E8 J7), I.nil, v⟩ ?_
 rintro am an w next2 ⟨⟨r7, o7⟩, H, Q9, Fs5l2, rfl, g, a1M, I, z⟩ hn2
 dsimp only at g I a1M
 simp only [List.map_cons, List.map_nil, List.cons.injEq, and_true] at g
 obtain ⟨e5, e10⟩ := g
 simp only [e5, e10]
 obtain ⟨n2, hm2, h⟩ : ∃ n2 : ((List d2) × Int) → Hp → Prop, (∀ s' H', n2 s' H' → f s' H' ∧ d s' < d (r7, o7)) ∧ u4 x0 (x0.n : Int) r7 o7 H n2 K := ⟨_, fun _ _ h => h, y (r7, o7) H (fun s' H' => f s' H' ∧ d s' < d (r7, o7)) z (fun _ _ a b => ⟨a, b⟩)⟩
 unfold b5U
 unfold u4 at h
 refine c5 (v8 _ _ _ _ _ _) ?_
 refine d6 h (fun _ h => ?_) (fun _ h => ?_)
 ·obtain ⟨aa, ab, k, i, h⟩ := h
  obtain ⟨ao, ap, ac, i⟩ := i
  refine c5 (a9t ac _ _ _ _ aa ab) ?_
  refine c7 (ldA (vs := (m5 k)) Tryd.isAgg39 Tryd.sizeOf39 rfl (I.atH i)) ?_
  refine o3 I Tryd.zeroValue39 (cs := [(vi 0), (Value.string ⟨#[]⟩), (Value.slice none 0 0), (Value.slice none 0 0), (Value.slice none 0 0), (Value.slice none 0 0)]) rfl fun aq ar ad au => ?_
  refine o8 ad Tryd.sizeOf39 (vs := (m5 k)) fun av m aw => ?_
  refine c7 (lW Tryd.isAgg39 Tryd.sizeOf39 rfl m) ?_
  refine f7 Tryd.call59 h m ?_
  rintro _ ae _ ax af _ _ ⟨o, rfl, rfl, h⟩
  refine X8 (e := 126) (c := m8) (xs := [o]) af (a7r _) rfl rfl E8 J7 (nb rfl) fun ay az ba ag p bb => ?_
  obtain ⟨ah, h⟩ := h
  refine a6J (s := Q9) (xs := r7) (p.bring 2) a1M (ag.srcO ((p.bring 2).bring 1)) ah fun ai aj bc ak al bd => ?_
  refine c5 (s6 _ _ _ _ _ _) ?_
  exact hn2 _ _ _ (hm2 _ _ h).2 ⟨((r7 ++ [o]), (IntKind.wrap .i64 (o7 + 1))), ae, ai, aj, rfl, rfl, ak, ((al.bring 1).drop.bring 1).drop, (hm2 _ _ h).1⟩
 ·exact hx1 _ _ (hj1 r7 Q9 Fs5l2 H _ a1M I h)
def a2m (x0 : Int) (H : Hp) (K : Bool → Hp → Prop) : Prop :=
 a0D x0 H (fun a b =>
 K ((decide (a = 3)) || (decide (a = 4))) b)
theorem a8c (x0 : Int) {H : Hp} {K : Bool → Hp → Prop} (h : a2m x0 H K) : a2f x0 H K := by
 refine Ct.of fun w0 w ps0 H0 R E I hR => c0I ?_
 unfold a2m at h
 unfold F69
 refine f7 Tryd.call70 h I ?_
 rintro _ c _ e d _ _ ⟨b, rfl, rfl, h⟩
 refine c5 (f9 _ _ _ _ _ _) ?_
 simp only [G0]
 refine c5 (Pu.g fun hb => by have a := hb; simp only [f8 a]; with_reducible exact (f9 _ _ _ _ _ _)) ?_
 refine c5 (F8 _ _) ?_
 exact hR _ c _ _ d ⟨((decide (b = 3)) || (decide (b = 4))), rfl, rfl, h⟩
def a1S (H : Hp) (K : Bool → Hp → Prop) : Prop :=
 K true H
def Z5 (b : ByteArray) (a : Nat) (H : Hp) (n2 : Nat → Hp → Prop) (K : Bool → Hp → Prop) : Prop :=
 (a < b.size →
 a2f ((Utf8.decode b a).1 : Int) H (fun c d =>
 TG ((!(!c) && (decide (((a : Nat) : Int) = 0))) = true) (a0D ((Utf8.decode b a).1 : Int) d) 0 d (fun (e : Int) (f : Hp) =>
 (((!c) || ((decide (((a : Nat) : Int) = 0)) && (!decide (e = 3)))) = true →
 K false f) ∧
 (((!c) || ((decide (((a : Nat) : Int) = 0)) && (!decide (e = 3)))) = false →
 n2 (a + (Utf8.decode b a).2) f)))) ∧
 (¬ (a < b.size) →
 a1S H K)
def a3x (x0 : ByteArray) (H : Hp) (K : Bool → Hp → Prop) : Prop :=
 TG ((decide (x0 = ⟨#[]⟩)) = false) (a2d x0 H) false H (fun (a : Bool) (c : Hp) =>
 TG (((decide (x0 = ⟨#[]⟩)) || (!a)) = false) (a3p x0 c) false c (fun (b : Bool) (d : Hp) =>
 TG ((((decide (x0 = ⟨#[]⟩)) || (!a)) || b) = false) (a3q x0 d) false d (fun (e : Bool) (f : Hp) =>
 (((((decide (x0 = ⟨#[]⟩)) || (!a)) || b) || e) = true →
 K false f) ∧
 (((((decide (x0 = ⟨#[]⟩)) || (!a)) || b) || e) = false →
 TL (0 : Nat) f fun (s : Nat) H n2 => Z5 x0 s H n2 K))))
theorem a9h (x0 : ByteArray) {H : Hp} {K : Bool → Hp → Prop} (h : a3x x0 H K) : a1e x0 H K := by
 refine Ct.of fun w0 w ps0 H0 R E I hR => c0E ?_
 unfold a3x at h
 unfold F64
 refine c5 (X6 _ _ _ _ _) ?_
 simp only [G0]
 refine U1 [] (fun d : Bool => (Value.bool d)) h I (fun r h => ?_) fun d s ai f t u h => ?_
 ·have a := r
  simp only [f8 a]
  refine f7 Tryd.call66 h I ?_
  rintro _ s _ ai f u t ⟨d, rfl, rfl, h⟩
  exact ⟨d, s, rfl, f, t, u, h⟩
 refine c5 (Pu.g fun hb => by have a := hb; simp only [f8 a]; with_reducible exact (N6 _)) ?_
 refine c5 (F8 _ _) ?_
 simp only [G0]
 refine U1 [] (fun i : Bool => (Value.bool i)) h f (fun v h => ?_) fun i y aj j z aa h => ?_
 ·have a := v
  simp only [f8 a]
  refine f7 Tryd.call67 h f ?_
  rintro _ y _ aj j aa z ⟨i, rfl, rfl, h⟩
  exact ⟨i, y, rfl, j, z, aa, h⟩
 refine c5 (F8 _ _) ?_
 simp only [G0]
 refine U1 [] (fun k : Bool => (Value.bool k)) h j (fun ab h => ?_) fun k o ak l ac ad h => ?_
 ·have a := ab
  simp only [f8 a]
  refine f7 Tryd.call68 h j ?_
  rintro _ o _ ak l ad ac ⟨k, rfl, rfl, h⟩
  exact ⟨k, o, rfl, l, ac, ad, h⟩
 refine c5 (F8 _ _) ?_
 refine o5 h (fun _ h => ?_) (fun _ h => ?_)
 ·exact hR _ o _ _ l ⟨false, rfl, rfl, h⟩
 ·have hj1 : ∀ (H : Hp) (w : World) (_ : Inv w0 ps0 H0 H [] w) (_ : a1S H K), b2B w R E := by
   intro H w I h
   unfold b2B
   intro _
   unfold a1S at h
   exact hR _ H _ _ I ⟨true, rfl, rfl, h⟩
  refine p8 fun j1 hx1 => ?_
  refine b3I Tryd.underlying9 x0 l fun al aq am ar => ?_
  refine a2v (σ := Nat) (fun c => []) (fun c => [itf al x0 c]) h rfl am ?_
  rintro c H au w next2 n2 an I h hn2
  clear an
  unfold b5X
  unfold Z5 at h
  refine b5h I (fun p av ao aw => ?_) (fun p => ?_)
  ·replace h := h.1 p
   refine c5 (j7 _ _ (Value.bool true) rfl) ?_
   refine a1m (fun e => ?_) (fun e => by cases e)
   refine c5 (j7 _ _ (vi ((c : Nat) : Int)) rfl) ?_
   refine c5 (j7 _ _ (Value.int .i32 ((Utf8.decode x0 c).1 : Int)) rfl) ?_
   refine f7 Tryd.call69 h ao ?_
   rintro _ _ _ ax ae _ _ ⟨ay, rfl, rfl, h⟩
   refine c5 (N6 _) ?_
   simp only [G0]
   refine c5 (Pu.g fun hb => by have a := hb; simp only [f8 a]; with_reducible exact (f9 _ _ _ _ _ _)) ?_
   simp only [b1m, b9m]
   refine c1C (a2Q _ _ _) ?_
   refine U1 [] (fun m : Int => (vi m)) h ae (fun af h => ?_) fun m q ap n ag ah h => ?_
   ·obtain ⟨a, b⟩ := a5i af
    simp only [f8 af]
    refine f7 Tryd.call70 h ae ?_
    rintro _ q _ ap n ah ag ⟨m, rfl, rfl, h⟩
    exact ⟨m, q, rfl, n, ag, ah, h⟩
   refine c5 (Pu.e (a2Q _ _ _) (Pu.g fun hb => by obtain ⟨a, b⟩ := a5i hb; simp only [f8 hb]; with_reducible exact (J9 _ _ _ _ _ _))) ?_
   refine c5 (Pu.g fun hb => by have a := hb; simp only [f8 a, b1z a]; with_reducible exact (B9 _ _)) ?_
   refine c5 (F8 _ _) ?_
   refine o5 h (fun _ h => ?_) (fun _ h => ?_)
   ·exact hR _ q _ _ n.drop ⟨false, rfl, rfl, h⟩
   ·exact hn2 (c + (Utf8.decode x0 c).2) _ _ h n
  ·replace h := h.2 p
   refine c5 (j7 _ _ (Value.bool false) rfl) ?_
   refine a1m (fun e => by cases e) (fun e => ?_)
   exact hx1 _ _ (hj1 H _ I.drop h)
def Q4 (x0 : (List ByteArray)) (x1 : ByteArray) (H : Hp) (K : Bool → Hp → Prop) : Prop :=
 S5 x0 x1 H (fun a b =>
 K (decide (0 ≤ a)) b)
theorem a3P (x0 : (List ByteArray)) (x1 : ByteArray) {H : Hp} {K : Bool → Hp → Prop} (h : Q4 x0 x1 H K) : J2 x0 x1 H K := by
 intro sx0 Fx0 hx0
 refine Ct.of fun w0 w ps0 H0 R E I hR => c0F ?_
 unfold Q4 at h
 unfold F65
 refine f7 Tryd.call71 (h sx0 Fx0 hx0) I ?_
 rintro _ a _ d b _ _ ⟨c, rfl, rfl, h⟩
 refine c5 (a3Q _ _ _ _ _ _) ?_
 exact hR _ a _ _ b ⟨(decide (0 ≤ c)), rfl, rfl, h⟩
def N2 (b8d : Sl) (b0a : Int) (d : m3) (M9 : Int) (C3 : (List d5)) (H : Hp) (n2 : (Int × (List d5)) → Hp → Prop) (K : g8 → (List d5) → Hp → Prop) : Prop :=
 (M9 < b0a →
 (0 : Int) ≤ M9 ∧ (M9 : Int) < b8d.n ∧ ∃ a : m3, EltH H b8d M9 4 (i6 a) ∧
 K2 (g8.mk (Sl.mk none 0 0)) C3 a H (fun e b c =>
 n2 ((IntKind.wrap .i64 (M9 + 1)), b) c)) ∧
 (¬ (M9 < b0a) →
 K (g8.mk (Sl.mk none 0 0)) C3 H)
def B5 (T2 : (List d5)) (a : m3) (H : Hp) (K : g8 → (List d5) → Hp → Prop) : Prop :=
 TL ((0, T2) : Int × (List d5)) H fun (s : Int × (List d5)) H n2 => N2 a.z7 (a.z7.n : Int) a s.1 s.2 H n2 K
def Z6 (x0 : g8) (a : (List d5)) (x1 : m3) (H : Hp) (K : g8 → (List d5) → Hp → Prop) : Prop :=
 (x1.d4 = 2 →
 (a.length + ([(d5.mk x1.g7 1)] : List d5).length) * 25 ≤ 140737488355328 ∧
 B5 (a ++ [(d5.mk x1.g7 1)]) x1 H K) ∧
 (¬ (x1.d4 = 2) →
 (x1.d4 = 4 →
 (a.length + ([(d5.mk x1.g7 2)] : List d5).length) * 25 ≤ 140737488355328 ∧
 B5 (a ++ [(d5.mk x1.g7 2)]) x1 H K) ∧
 (¬ (x1.d4 = 4) →
 B5 a x1 H K))
theorem a5z (x0 : g8) (d : (List d5)) (x1 : m3) {H : Hp} {K : g8 → (List d5) → Hp → Prop} (h : Z6 x0 d x1 H K) : K2 x0 d x1 H K := by
 intro g0 k ab m
 refine Ct.of fun w0 w ps0 H0 R E I hR => c0r ?_
 unfold Z6 at h
 unfold F51
 refine A5 I (cs := (i6 x1)) rfl fun o bf g bg => ?_
 have hj1 : ∀ (T2 : (List d5)) (a1T : Sl) (a1U : Frag) (H : Hp) (w : World) (_ : RowL 106 2 r5 a1T T2 a1U) (_ : Inv w0 ps0 H0 H [bx g0 103 [(vs a1T)], bx o 25 (i6 x1), a1U] w) (_ : B5 T2 x1 H K), b2r (Value.pointer (some ⟨g0, 0, none⟩)) (Value.pointer (some ⟨o, 0, none⟩)) w R E := by
  intro T2 a1T a1U H w a9B I h
  unfold b2r
  intro _
  unfold B5 at h
  refine c5 a0S ?_
  refine c7 (l1 Tryd.isAgg23 (I.bring 1) rfl) ?_
  refine c5 (a1v _ _ _) ?_
  obtain ⟨p, f, ac, ad⟩ := h
  refine D1 (J := fun n l w => ∃ (s : Int × (List d5)) (H : Hp) (a0y : Sl) (a0z : Frag) , n = f s ∧ l = (match s with | (M9, C3) => [(vi M9)]) ∧ (match s with | (M9, C3) => RowL 106 2 r5 a0y C3 a0z) ∧ (match s with | (M9, C3) => Inv w0 ps0 H0 H [bx g0 103 [(vs a0y)], bx o 25 (i6 x1), a0z] w) ∧ p s H) ⟨_, (0, T2), H, a1T, a1U, rfl, rfl, a9B, (((I.bring 2).bring 2).bring 2), ac⟩ ?_
  rintro bh bi w next2 ⟨⟨M9, C3⟩, H, a0y, a0z, rfl, q, a3H, I, ae⟩ hn2
  dsimp only at q I a3H
  simp only [List.map_cons, List.map_nil, List.cons.injEq, and_true] at q
  have e39 := q
  simp only [e39]
  obtain ⟨n2, hm2, h⟩ : ∃ n2 : (Int × (List d5)) → Hp → Prop, (∀ s' H', n2 s' H' → p s' H' ∧ f s' < f (M9, C3)) ∧ N2 x1.z7 (x1.z7.n : Int) x1 M9 C3 H n2 K := ⟨_, fun _ _ h => h, ad (M9, C3) H (fun s' H' => p s' H' ∧ f s' < f (M9, C3)) ae (fun _ _ a b => ⟨a, b⟩)⟩
  unfold b5Q
  unfold N2 at h
  refine c5 (v8 _ _ _ _ _ _) ?_
  refine d6 h (fun _ h => ?_) (fun _ h => ?_)
  ·obtain ⟨af, ag, t, r, h⟩ := h
   obtain ⟨bj, bk, ah, r⟩ := r
   refine c5 (a0Y ah _ _ _ _ af ag) ?_
   refine c7 (ldA (vs := (i6 t)) Tryd.isAgg25 Tryd.sizeOf25 rfl (I.atH r)) ?_
   refine o3 I Tryd.zeroValue25 (cs := [(vi 0), (vi 0), (Value.string ⟨#[]⟩), (Value.slice none 0 0)]) rfl fun bl bm ai bn => ?_
   refine o8 ai Tryd.sizeOf25 (vs := (i6 t)) fun bo u bp => ?_
   refine c7 (lW Tryd.isAgg25 Tryd.sizeOf25 rfl u) ?_
   refine f7 Tryd.call51 (h g0 a0y a0z a3H) ((u.bring 3).bring 2) ?_
   rintro _ aj _ bq ak _ _ ⟨br, al, am, an, rfl, rfl, ao, h⟩
   refine c5 (s6 _ _ _ _ _ _) ?_
   exact hn2 _ _ _ (hm2 _ _ h).2 ⟨((IntKind.wrap .i64 (M9 + 1)), al), aj, am, an, rfl, rfl, ao, ((((ak.bring 2).drop.bring 1).bring 2).bring 2), (hm2 _ _ h).1⟩
  ·exact hR _ H _ _ (((I.bring 1).drop.bring 1).bring 1) ⟨(g8.mk (Sl.mk none 0 0)), C3, a0y, a0z, rfl, rfl, a3H, h⟩
 refine p8 fun j1 hx1 => ?_
 refine c5 Q7 ?_
 refine c7 (l1 Tryd.isAgg3 g rfl) ?_
 refine c5 (f9 _ _ _ _ _ _) ?_
 refine d6 h (fun _ h => ?_) (fun _ h => ?_)
 ·refine L5 g fun bs i => ?_
  refine d7 (p5 _) ?_
  refine d7 T5 ?_
  refine d7 a2X ?_
  refine o4 (l1 Tryd.isAgg101 (i.bring 1) rfl) ?_
  refine o4 (l1 Tryd.isAgg9 i rfl) ?_
  refine d7 (a2Z _ _) ?_
  refine X8 (e := 106) (c := r5) (xs := [(d5.mk x1.g7 1)]) i (a7q _ _) rfl rfl a1Z a2b (nb rfl) fun bt bu bv ap v aq => ?_
  refine ⟨(aq _ (i.bring 1).lt1), ?_⟩
  obtain ⟨ar, h⟩ := h
  refine a8J (s := k) (xs := d) (v.bring 3) m (ap.srcO ((v.bring 3).bring 1)) ar fun y au bw av aw bz => ?_
  refine d7 (p5 _) ?_
  refine d7 T5 ?_
  refine o8 ((aw.bring 1).drop.bring 2) Tryd.sizeOf101 (vs := [(vs y)]) fun ca ax cb => ?_
  exact hx1 _ _ (hj1 (d ++ [(d5.mk x1.g7 1)]) y au H _ av (((ax.bring 1).bring 2).bring 2) h)
 ·refine c5 (f9 _ _ _ _ _ _) ?_
  refine d6 h (fun _ h => ?_) (fun _ h => ?_)
  ·refine L5 g fun cc j => ?_
   refine d7 (p5 _) ?_
   refine d7 T5 ?_
   refine d7 a2X ?_
   refine o4 (l1 Tryd.isAgg101 (j.bring 1) rfl) ?_
   refine o4 (l1 Tryd.isAgg9 j rfl) ?_
   refine d7 (a2Z _ _) ?_
   refine X8 (e := 106) (c := r5) (xs := [(d5.mk x1.g7 2)]) j (a7q _ _) rfl rfl a1Z a2b (nb rfl) fun cd ce cf ay z az => ?_
   refine ⟨(az _ (j.bring 1).lt1), ?_⟩
   obtain ⟨ba, h⟩ := h
   refine a8J (s := k) (xs := d) (z.bring 3) m (ay.srcO ((z.bring 3).bring 1)) ba fun aa bb cg bc bd ch => ?_
   refine d7 (p5 _) ?_
   refine d7 T5 ?_
   refine o8 ((bd.bring 1).drop.bring 2) Tryd.sizeOf101 (vs := [(vs aa)]) fun ci be cj => ?_
   exact hx1 _ _ (hj1 (d ++ [(d5.mk x1.g7 2)]) aa bb H _ bc (((be.bring 1).bring 2).bring 2) h)
  ·exact hx1 _ _ (hj1 d k ab H _ m (((g.bring 2).bring 1).bring 2) h)
def N3 (b8e : Sl) (b8f : Int) (d : o9) (a1k : Int) (C3 : (List d5)) (H : Hp) (n2 : (Int × (List d5)) → Hp → Prop) (K : g8 → (List d5) → Hp → Prop) : Prop :=
 (a1k < b8f →
 (0 : Int) ≤ a1k ∧ (a1k : Int) < b8e.n ∧ ∃ a : o9, EltH H b8e a1k 4 (l7 a) ∧
 P8 (g8.mk (Sl.mk none 0 0)) C3 a H (fun e b c =>
 n2 ((IntKind.wrap .i64 (a1k + 1)), b) c)) ∧
 (¬ (a1k < b8f) →
 K (g8.mk (Sl.mk none 0 0)) C3 H)
def N4 (a : o9) (T2 : (List d5)) (H : Hp) (K : g8 → (List d5) → Hp → Prop) : Prop :=
 TL ((0, T2) : Int × (List d5)) H fun (s : Int × (List d5)) H n2 => N3 a.r9 (a.r9.n : Int) a s.1 s.2 H n2 K
def N5 (Z2 : Sl) (b8g : Int) (b : o9) (a1l : Int) (X5 : (List d5)) (H : Hp) (n3 : (Int × (List d5)) → Hp → Prop) (K : g8 → (List d5) → Hp → Prop) : Prop :=
 (a1l < b8g →
 (0 : Int) ≤ a1l ∧ (a1l : Int) < Z2.n ∧ ∃ a : m3, EltH H Z2 a1l 4 (i6 a) ∧
 K2 (g8.mk (Sl.mk none 0 0)) X5 a H (fun e c d =>
 n3 ((IntKind.wrap .i64 (a1l + 1)), c) d)) ∧
 (¬ (a1l < b8g) →
 N4 b X5 H K)
def Z7 (x0 : g8) (a : (List d5)) (x1 : o9) (H : Hp) (K : g8 → (List d5) → Hp → Prop) : Prop :=
 TL ((0, a) : Int × (List d5)) H fun (s : Int × (List d5)) H n3 => N5 x1.i8 (x1.i8.n : Int) x1 s.1 s.2 H n3 K
theorem a5A (x0 : g8) (f : (List d5)) (x1 : o9) {H : Hp} {K : g8 → (List d5) → Hp → Prop} (h : Z7 x0 f x1 H K) : P8 x0 f x1 H K := by
 intro g0 v y z
 refine Ct.of fun w0 w ps0 H0 R E I hR => c0q ?_
 unfold Z7 at h
 unfold F50
 refine A5 I (cs := (l7 x1)) rfl fun e bc p bd => ?_
 have hj1 : ∀ (T2 : (List d5)) (a1T : Sl) (a1U : Frag) (H : Hp) (w : World) (_ : RowL 106 2 r5 a1T T2 a1U) (_ : Inv w0 ps0 H0 H [bx e 89 (l7 x1), bx g0 103 [(vs a1T)], a1U] w) (_ : N4 x1 T2 H K), b2q (Value.pointer (some ⟨g0, 0, none⟩)) (Value.pointer (some ⟨e, 0, none⟩)) w R E := by
  intro T2 a1T a1U H w a9B I h
  unfold b2q
  intro _
  unfold N4 at h
  refine c5 a0T ?_
  refine c7 (l1 Tryd.isAgg36 I rfl) ?_
  refine c5 (a4F _ _ _) ?_
  obtain ⟨g, c, aa, ab⟩ := h
  refine D1 (J := fun n l w => ∃ (s : Int × (List d5)) (H : Hp) (a0y : Sl) (a0z : Frag) , n = c s ∧ l = (match s with | (a1k, C3) => [(vi a1k)]) ∧ (match s with | (a1k, C3) => RowL 106 2 r5 a0y C3 a0z) ∧ (match s with | (a1k, C3) => Inv w0 ps0 H0 H [bx e 89 (l7 x1), bx g0 103 [(vs a0y)], a0z] w) ∧ g s H) ⟨_, (0, T2), H, a1T, a1U, rfl, rfl, a9B, (((I.bring 2).bring 2).bring 2), aa⟩ ?_
  rintro be bf w next2 ⟨⟨a1k, C3⟩, H, a0y, a0z, rfl, i, a3H, I, ac⟩ hn2
  dsimp only at i I a3H
  simp only [List.map_cons, List.map_nil, List.cons.injEq, and_true] at i
  have e22 := i
  simp only [e22]
  obtain ⟨n2, hm2, h⟩ : ∃ n2 : (Int × (List d5)) → Hp → Prop, (∀ s' H', n2 s' H' → g s' H' ∧ c s' < c (a1k, C3)) ∧ N3 x1.r9 (x1.r9.n : Int) x1 a1k C3 H n2 K := ⟨_, fun _ _ h => h, ab (a1k, C3) H (fun s' H' => g s' H' ∧ c s' < c (a1k, C3)) ac (fun _ _ a b => ⟨a, b⟩)⟩
  unfold b5O
  unfold N3 at h
  refine c5 (v8 _ _ _ _ _ _) ?_
  refine d6 h (fun _ h => ?_) (fun _ h => ?_)
  ·obtain ⟨ad, ae, q, j, h⟩ := h
   obtain ⟨bg, bh, af, j⟩ := j
   refine c5 (W0 af _ _ _ _ ad ae) ?_
   refine c7 (ldA (vs := (l7 q)) Tryd.isAgg89 Tryd.sizeOf89 rfl (I.atH j)) ?_
   refine o3 I Tryd.zeroValue89 (cs := [(vi 0), (vi 0), (Value.slice none 0 0), (Value.slice none 0 0)]) rfl fun bi bj ag bk => ?_
   refine o8 ag Tryd.sizeOf89 (vs := (l7 q)) fun bl r bm => ?_
   refine c7 (lW Tryd.isAgg89 Tryd.sizeOf89 rfl r) ?_
   refine f7 Tryd.call50 (h g0 a0y a0z a3H) ((r.bring 3).bring 3) ?_
   rintro _ ah _ bn ai _ _ ⟨bo, aj, ak, al, rfl, rfl, am, h⟩
   refine c5 (s6 _ _ _ _ _ _) ?_
   exact hn2 _ _ _ (hm2 _ _ h).2 ⟨((IntKind.wrap .i64 (a1k + 1)), aj), ah, ak, al, rfl, rfl, am, ((((ai.bring 2).drop.bring 1).bring 1).bring 2), (hm2 _ _ h).1⟩
  ·exact hR _ H _ _ ((I.drop.bring 1).bring 1) ⟨(g8.mk (Sl.mk none 0 0)), C3, a0y, a0z, rfl, rfl, a3H, h⟩
 refine p8 fun j1 hx1 => ?_
 refine c5 a5p ?_
 refine c7 (l1 Tryd.isAgg23 p rfl) ?_
 refine c5 (a1v _ _ _) ?_
 obtain ⟨k, d, an, ao⟩ := h
 refine D1 (J := fun n l w => ∃ (s : Int × (List d5)) (H : Hp) (a6g : Sl) (a6h : Frag) , n = d s ∧ l = (match s with | (a1l, X5) => [(vi a1l)]) ∧ (match s with | (a1l, X5) => RowL 106 2 r5 a6g X5 a6h) ∧ (match s with | (a1l, X5) => Inv w0 ps0 H0 H [bx e 89 (l7 x1), bx g0 103 [(vs a6g)], a6h] w) ∧ k s H) ⟨_, (0, f), H, v, y, rfl, rfl, z, (((p.bring 2).bring 2).bring 2), an⟩ ?_
 rintro bp bq w next3 ⟨⟨a1l, X5⟩, H, a6g, a6h, rfl, m, a9C, I, ap⟩ hn3
 dsimp only at m I a9C
 simp only [List.map_cons, List.map_nil, List.cons.injEq, and_true] at m
 have e11 := m
 simp only [e11]
 obtain ⟨n3, hm3, h⟩ : ∃ n3 : (Int × (List d5)) → Hp → Prop, (∀ s' H', n3 s' H' → k s' H' ∧ d s' < d (a1l, X5)) ∧ N5 x1.i8 (x1.i8.n : Int) x1 a1l X5 H n3 K := ⟨_, fun _ _ h => h, ao (a1l, X5) H (fun s' H' => k s' H' ∧ d s' < d (a1l, X5)) ap (fun _ _ a b => ⟨a, b⟩)⟩
 unfold b5P
 unfold N5 at h
 refine c5 (v8 _ _ _ _ _ _) ?_
 refine d6 h (fun _ h => ?_) (fun _ h => ?_)
 ·obtain ⟨aq, ar, t, o, h⟩ := h
  obtain ⟨br, bs, au, o⟩ := o
  refine c5 (a0Y au _ _ _ _ aq ar) ?_
  refine c7 (ldA (vs := (i6 t)) Tryd.isAgg25 Tryd.sizeOf25 rfl (I.atH o)) ?_
  refine o3 I Tryd.zeroValue25 (cs := [(vi 0), (vi 0), (Value.string ⟨#[]⟩), (Value.slice none 0 0)]) rfl fun bt bu av bv => ?_
  refine o8 av Tryd.sizeOf25 (vs := (i6 t)) fun bw u bz => ?_
  refine c7 (lW Tryd.isAgg25 Tryd.sizeOf25 rfl u) ?_
  refine f7 Tryd.call51 (h g0 a6g a6h a9C) ((u.bring 3).bring 3) ?_
  rintro _ aw _ ca ax _ _ ⟨cb, ay, az, ba, rfl, rfl, bb, h⟩
  refine c5 (s6 _ _ _ _ _ _) ?_
  exact hn3 _ _ _ (hm3 _ _ h).2 ⟨((IntKind.wrap .i64 (a1l + 1)), ay), aw, az, ba, rfl, rfl, bb, ((((ax.bring 2).drop.bring 1).bring 1).bring 2), (hm3 _ _ h).1⟩
 ·exact hx1 _ _ (hj1 X5 a6g a6h H _ a9C (((I.bring 2).bring 2).bring 2) h)
def u5 (Q8 : (List d2)) (H : Hp) (K : Sl → Hp → Prop) : Prop :=
 ∀ (B7 : Sl) (a : Hp), Hle H a → SlH a 1 m8 B7 Q8 → B7.n ≤ B7.c →
 K B7 a
def u6 (Y9 : Sl) (a0u : Int) (r7 : (List d2)) (o7 : Int) (H : Hp) (n2 : ((List d2) × Int) → Hp → Prop) (K : Sl → Hp → Prop) : Prop :=
 (o7 < a0u →
 (0 : Int) ≤ o7 ∧ (o7 : Int) < Y9.n ∧ ∃ a : m3, EltH H Y9 o7 4 (i6 a) ∧
 a4b a H (fun b c =>
 (r7.length + ([b] : List d2).length) * 17 ≤ 140737488355328 ∧
 n2 ((r7 ++ [b]), (IntKind.wrap .i64 (o7 + 1))) c)) ∧
 (¬ (o7 < a0u) →
 u5 r7 H K)
def B6 (x0 : Sl) (H : Hp) (K : Sl → Hp → Prop) : Prop :=
 TL (([], 0) : (List d2) × Int) H fun (s : (List d2) × Int) H n2 => u6 x0 (x0.n : Int) s.1 s.2 H n2 K
theorem T3 (x0 : Sl) {H : Hp} {K : Sl → Hp → Prop} (h : B6 x0 H K) : q7 x0 H K := by
 refine Ct.of fun w0 w ps0 H0 R E I hR => c0T ?_
 unfold B6 at h
 unfold F97
 have hj1 : ∀ (Q8 : (List d2)) (B7 : Sl) (Fs5j1 : Frag) (H : Hp) (w : World) (_ : RowL 126 1 m8 B7 Q8 Fs5j1) (_ : Inv w0 ps0 H0 H [Fs5j1] w) (_ : u5 Q8 H K), b2L (vs B7) w R E := by
  intro Q8 B7 Fs5j1 H w a7z I h
  unfold b2L
  intro _
  unfold u5 at h
  obtain ⟨j, q, r, t, u⟩ := Inv.freezeC I a7z (by decide)
  replace h := h B7 j r t u
  exact hR _ j _ _ q ⟨B7, rfl, rfl, h⟩
 refine p8 fun j1 hx1 => ?_
 refine c5 (a1v _ _ _) ?_
 obtain ⟨f, d, v, y⟩ := h
 refine D1 (J := fun n l w => ∃ (s : (List d2) × Int) (H : Hp) (Q9 : Sl) (Fs5l2 : Frag) , n = d s ∧ l = (match s with | (r7, o7) => [(vs Q9), (vi o7)]) ∧ (match s with | (r7, o7) => RowL 126 1 m8 Q9 r7 Fs5l2) ∧ (match s with | (r7, o7) => Inv w0 ps0 H0 H [Fs5l2] w) ∧ f s H) ⟨_, ([], 0), H, (Sl.mk none 0 0), [], rfl, rfl, (RowL.nil E8 J7), I.nil, v⟩ ?_
 rintro am an w next2 ⟨⟨r7, o7⟩, H, Q9, Fs5l2, rfl, g, a1M, I, z⟩ hn2
 dsimp only at g I a1M
 simp only [List.map_cons, List.map_nil, List.cons.injEq, and_true] at g
 obtain ⟨e5, e10⟩ := g
 simp only [e5, e10]
 obtain ⟨n2, hm2, h⟩ : ∃ n2 : ((List d2) × Int) → Hp → Prop, (∀ s' H', n2 s' H' → f s' H' ∧ d s' < d (r7, o7)) ∧ u6 x0 (x0.n : Int) r7 o7 H n2 K := ⟨_, fun _ _ h => h, y (r7, o7) H (fun s' H' => f s' H' ∧ d s' < d (r7, o7)) z (fun _ _ a b => ⟨a, b⟩)⟩
 unfold b6b
 unfold u6 at h
 refine c5 (v8 _ _ _ _ _ _) ?_
 refine d6 h (fun _ h => ?_) (fun _ h => ?_)
 ·obtain ⟨aa, ab, k, i, h⟩ := h
  obtain ⟨ao, ap, ac, i⟩ := i
  refine c5 (a0Y ac _ _ _ _ aa ab) ?_
  refine c7 (ldA (vs := (i6 k)) Tryd.isAgg25 Tryd.sizeOf25 rfl (I.atH i)) ?_
  refine o3 I Tryd.zeroValue25 (cs := [(vi 0), (vi 0), (Value.string ⟨#[]⟩), (Value.slice none 0 0)]) rfl fun aq ar ad au => ?_
  refine o8 ad Tryd.sizeOf25 (vs := (i6 k)) fun av m aw => ?_
  refine c7 (lW Tryd.isAgg25 Tryd.sizeOf25 rfl m) ?_
  refine f7 Tryd.call98 h m ?_
  rintro _ ae _ ax af _ _ ⟨o, rfl, rfl, h⟩
  refine X8 (e := 126) (c := m8) (xs := [o]) af (a7r _) rfl rfl E8 J7 (nb rfl) fun ay az ba ag p bb => ?_
  obtain ⟨ah, h⟩ := h
  refine a6J (s := Q9) (xs := r7) (p.bring 2) a1M (ag.srcO ((p.bring 2).bring 1)) ah fun ai aj bc ak al bd => ?_
  refine c5 (s6 _ _ _ _ _ _) ?_
  exact hn2 _ _ _ (hm2 _ _ h).2 ⟨((r7 ++ [o]), (IntKind.wrap .i64 (o7 + 1))), ae, ai, aj, rfl, rfl, ak, ((al.bring 1).drop.bring 1).drop, (hm2 _ _ h).1⟩
 ·exact hx1 _ _ (hj1 r7 Q9 Fs5l2 H _ a1M I h)
def y9 (c2w : Int) (a8O : Bool) (a : C7) (H : Hp) (K : Bool → Hp → Prop) : Prop :=
 (a8O = true →
 K (decide (c2w = 2)) H) ∧
 (a8O = false →
 K false H)
def D6 (b0G : Int) (a3e : Int) (a8P : Bool) (a : C7) (H : Hp) (K : Bool → Hp → Prop) : Prop :=
 (a8P = true →
 K (decide (b0G = 1)) H) ∧
 (a8P = false →
 (a3e = 6 →
 y9 b0G (decide (a3e = 6)) a H K) ∧
 (¬ (a3e = 6) →
 (a3e = 7 →
 y9 b0G (decide (a3e = 7)) a H K) ∧
 (¬ (a3e = 7) →
 (a3e = 8 →
 y9 b0G (decide (a3e = 8)) a H K) ∧
 (¬ (a3e = 8) →
 (a3e = 9 →
 y9 b0G (decide (a3e = 9)) a H K) ∧
 (¬ (a3e = 9) →
 y9 b0G (decide (a3e = 10)) a H K)))))
def D7 (a5b : Int) (a3f : Int) (a8Q : Bool) (a : C7) (H : Hp) (K : Bool → Hp → Prop) : Prop :=
 (a8Q = true →
 K (decide (a5b = 0)) H) ∧
 (a8Q = false →
 (a3f = 4 →
 D6 a5b a3f (decide (a3f = 4)) a H K) ∧
 (¬ (a3f = 4) →
 D6 a5b a3f (decide (a3f = 5)) a H K))
def a0J (x0 : C7) (H : Hp) (K : Bool → Hp → Prop) : Prop :=
 U4 (d2.z8 x0) H (fun c b a =>
 ((((!decide (x0.o0.d4 = 1)) && (!decide (x0.o0.p6 = 0))) || ((!b) && (!decide (x0.o0.g7 = ⟨#[]⟩)))) = true →
 K false a) ∧
 ((((!decide (x0.o0.d4 = 1)) && (!decide (x0.o0.p6 = 0))) || ((!b) && (!decide (x0.o0.g7 = ⟨#[]⟩)))) = false →
 (x0.o0.d4 = 1 →
 K ((decide (0 ≤ x0.o0.p6)) && (decide ((x0.o0.z7.n : Int) = 0))) a) ∧
 (¬ (x0.o0.d4 = 1) →
 (x0.o0.d4 = 2 →
 D7 (x0.o0.z7.n : Int) x0.o0.d4 (decide (x0.o0.d4 = 2)) x0 a K) ∧
 (¬ (x0.o0.d4 = 2) →
 D7 (x0.o0.z7.n : Int) x0.o0.d4 (decide (x0.o0.d4 = 3)) x0 a K))))
theorem a6n (x0 : C7) {H : Hp} {K : Bool → Hp → Prop} (h : a0J x0 H K) : a0F x0 H K := by
 refine Ct.of fun w0 w ps0 H0 R E I hR => c0V ?_
 unfold a0J at h
 unfold F99
 refine A5 I (cs := (i6 x0.o0)) rfl fun f l i m => ?_
 refine c5 Q5 ?_
 refine c5 a0S ?_
 refine c7 (l1 Tryd.isAgg23 i rfl) ?_
 refine c5 (a1v _ _ _) ?_
 refine c7 (lW Tryd.isAgg146 Tryd.sizeOf146 rfl i) ?_
 refine c5 (a6K x0) ?_
 refine f7 Tryd.call63 h i ?_
 rintro _ d _ o c _ _ ⟨j, k, rfl, rfl, h⟩
 refine c5 (j7 _ _ (Value.string j) rfl) ?_
 refine c5 (j7 _ _ (Value.bool k) rfl) ?_
 refine c5 Q5 ?_
 refine c5 Q7 ?_
 refine c7 (l1 Tryd.isAgg3 c rfl) ?_
 refine c5 (J9 _ _ _ _ _ _) ?_
 refine c5 (Pu.g fun hb => by have a := hb; with_reducible exact Q5) ?_
 refine c5 (Pu.g fun hb => by have a := hb; simp only [f8 a]; with_reducible exact a5k) ?_
 refine c7 (Ld.g fun hb => by have a := hb; simp only [f8 a]; exact (l1 Tryd.isAgg2 c rfl)) ?_
 refine c5 (Pu.g fun hb => by have a := hb; simp only [f8 a]; with_reducible exact (J9 _ _ _ _ _ _)) ?_
 refine c5 (B9 _ _) ?_
 simp only [G0]
 refine c5 (Pu.g fun hb => by have a := hb; simp only [f8 a]; with_reducible exact (N6 _)) ?_
 simp only [b1m]
 refine c5 (Pu.e (a2Q _ _ _) (Pu.g fun hb => by obtain ⟨a, b⟩ := a5i hb; with_reducible exact Q5)) ?_
 refine c5 (Pu.e (a2Q _ _ _) (Pu.g fun hb => by obtain ⟨a, b⟩ := a5i hb; simp only [f8 hb]; with_reducible exact a2X)) ?_
 refine c7 (Ld.e (a2Q _ _ _) (Ld.g fun hb => by obtain ⟨a, b⟩ := a5i hb; simp only [f8 hb]; exact (l1 Tryd.isAgg9 c rfl))) ?_
 refine c5 (Pu.e (a2Q _ _ _) (Pu.g fun hb => by obtain ⟨a, b⟩ := a5i hb; simp only [f8 hb]; with_reducible exact (b9k _ _ _ _ _))) ?_
 refine c5 (Pu.g fun hb => by have a := hb; simp only [f8 a, b1z a]; with_reducible exact (B9 _ _)) ?_
 refine c5 (F8 _ _) ?_
 refine o5 h (fun _ h => ?_) (fun _ h => ?_)
 ·exact hR _ d _ _ c.drop ⟨false, rfl, rfl, h⟩
 ·refine c5 Q5 ?_
  refine c5 Q7 ?_
  refine c7 (l1 Tryd.isAgg3 c rfl) ?_
  refine c5 (f9 _ _ _ _ _ _) ?_
  refine d6 h (fun _ h => ?_) (fun _ h => ?_)
  ·refine c5 Q5 ?_
   refine c5 a5k ?_
   refine c7 (l1 Tryd.isAgg2 c rfl) ?_
   refine c5 (a3Q _ _ _ _ _ _) ?_
   simp only [G0]
   refine c5 (Pu.g fun hb => by have a := hb; simp only [f8 a]; with_reducible exact (f9 _ _ _ _ _ _)) ?_
   refine c5 (B9 _ _) ?_
   exact hR _ d _ _ c.drop ⟨((decide (0 ≤ x0.o0.p6)) && (decide ((x0.o0.z7.n : Int) = 0))), rfl, rfl, h⟩
  ·have hj1 : ∀ (a8Q : Bool) (H : Hp) (w : World) (_ : Inv w0 ps0 H0 H [bx f 146 (i6 x0.o0)] w) (_ : D7 (x0.o0.z7.n : Int) x0.o0.d4 a8Q x0 H K), b2O (vi (x0.o0.z7.n : Int)) (vi x0.o0.d4) (Value.bool a8Q) w R E := by
    intro a8Q H w I h
    unfold b2O
    intro _
    unfold D7 at h
    refine o5 h (fun _ h => ?_) (fun _ h => ?_)
    ·refine c5 (f9 _ _ _ _ _ _) ?_
     exact hR _ H _ _ I.drop ⟨(decide ((x0.o0.z7.n : Int) = 0)), rfl, rfl, h⟩
    ·have hj2 : ∀ (a8P : Bool) (H : Hp) (w : World) (_ : Inv w0 ps0 H0 H [bx f 146 (i6 x0.o0)] w) (_ : D6 (x0.o0.z7.n : Int) x0.o0.d4 a8P x0 H K), b2N (vi (x0.o0.z7.n : Int)) (vi x0.o0.d4) (Value.bool a8P) w R E := by
      intro a8P H w I h
      unfold b2N
      intro _
      unfold D6 at h
      refine o5 h (fun _ h => ?_) (fun _ h => ?_)
      ·refine c5 (f9 _ _ _ _ _ _) ?_
       exact hR _ H _ _ I.drop ⟨(decide ((x0.o0.z7.n : Int) = 1)), rfl, rfl, h⟩
      ·have hj3 : ∀ (a8O : Bool) (H : Hp) (w : World) (_ : Inv w0 ps0 H0 H [bx f 146 (i6 x0.o0)] w) (_ : y9 (x0.o0.z7.n : Int) a8O x0 H K), b2M (vi (x0.o0.z7.n : Int)) (Value.bool a8O) w R E := by
        intro a8O H w I h
        unfold b2M
        intro _
        unfold y9 at h
        refine o5 h (fun _ h => ?_) (fun _ h => ?_)
        ·refine c5 (f9 _ _ _ _ _ _) ?_
         exact hR _ H _ _ I.drop ⟨(decide ((x0.o0.z7.n : Int) = 2)), rfl, rfl, h⟩
        ·exact hR _ H _ _ I.drop ⟨false, rfl, rfl, h⟩
       refine p8 fun j3 hx3 => ?_
       refine c5 (f9 _ _ _ _ _ _) ?_
       refine d6 h (fun _ h => ?_) (fun _ h => ?_)
       ·exact hx3 _ _ (hj3 (decide (x0.o0.d4 = 6)) H _ I h)
       ·refine c5 (f9 _ _ _ _ _ _) ?_
        refine d6 h (fun _ h => ?_) (fun _ h => ?_)
        ·exact hx3 _ _ (hj3 (decide (x0.o0.d4 = 7)) H _ I h)
        ·refine c5 (f9 _ _ _ _ _ _) ?_
         refine d6 h (fun _ h => ?_) (fun _ h => ?_)
         ·exact hx3 _ _ (hj3 (decide (x0.o0.d4 = 8)) H _ I h)
         ·refine c5 (f9 _ _ _ _ _ _) ?_
          refine d6 h (fun _ h => ?_) (fun _ h => ?_)
          ·exact hx3 _ _ (hj3 (decide (x0.o0.d4 = 9)) H _ I h)
          ·refine c5 (f9 _ _ _ _ _ _) ?_
           exact hx3 _ _ (hj3 (decide (x0.o0.d4 = 10)) H _ I h)
     refine p8 fun j2 hx2 => ?_
     refine c5 (f9 _ _ _ _ _ _) ?_
     refine d6 h (fun _ h => ?_) (fun _ h => ?_)
     ·exact hx2 _ _ (hj2 (decide (x0.o0.d4 = 4)) H _ I h)
     ·refine c5 (f9 _ _ _ _ _ _) ?_
      exact hx2 _ _ (hj2 (decide (x0.o0.d4 = 5)) H _ I h)
   refine p8 fun j1 hx1 => ?_
   refine c5 (f9 _ _ _ _ _ _) ?_
   refine d6 h (fun _ h => ?_) (fun _ h => ?_)
   ·exact hx1 _ _ (hj1 (decide (x0.o0.d4 = 2)) d _ c h)
   ·refine c5 (f9 _ _ _ _ _ _) ?_
    exact hx1 _ _ (hj1 (decide (x0.o0.d4 = 3)) d _ c h)
def D8 (a8R : Bool) (a : l9) (b : I0) (H : Hp) (K : Bool → Hp → Prop) : Prop :=
 (a8R = true →
 K (decide (a.fexprs = 0 ∧ a.fparts = 2)) H) ∧
 (a8R = false →
 K false H)
def D9 (a3f : Int) (a8S : Bool) (a : l9) (b : I0) (H : Hp) (K : Bool → Hp → Prop) : Prop :=
 (a8S = true →
 K (decide (a.fexprs = 0 ∧ a.fparts = 0)) H) ∧
 (a8S = false →
 (a3f = 4 →
 K (decide (a.fexprs = 0 ∧ a.fparts = 1)) H) ∧
 (¬ (a3f = 4) →
 (a3f = 5 →
 D8 (decide (a3f = 5)) a b H K) ∧
 (¬ (a3f = 5) →
 D8 (decide (a3f = 6)) a b H K)))
def a0K (x0 : I0) (H : Hp) (K : Bool → Hp → Prop) : Prop :=
 (x0.m4.d4 = 3 →
 K (((decide (1 ≤ x0.m4.fOp)) && (decide (x0.m4.fOp ≤ 6))) && (decide ((x0.m4.i8.n : Int) = 2 ∧ (x0.m4.r9.n : Int) = 0))) H) ∧
 (¬ (x0.m4.d4 = 3) →
 (¬ (x0.m4.fOp = 0) →
 K false H) ∧
 (x0.m4.fOp = 0 →
 (x0.m4.d4 = 1 →
 D9 x0.m4.d4 (decide (x0.m4.d4 = 1)) (l9.mk (x0.m4.i8.n : Int) (x0.m4.r9.n : Int)) x0 H K) ∧
 (¬ (x0.m4.d4 = 1) →
 D9 x0.m4.d4 (decide (x0.m4.d4 = 2)) (l9.mk (x0.m4.i8.n : Int) (x0.m4.r9.n : Int)) x0 H K)))
theorem a6o (x0 : I0) {H : Hp} {K : Bool → Hp → Prop} (h : a0K x0 H K) : a0G x0 H K := by
 refine Ct.of fun w0 w ps0 H0 R E I hR => b8D ?_
 unfold a0K at h
 unfold c0X
 refine A5 I (cs := (l7 x0.m4)) rfl fun e i d j => ?_
 refine c5 T6 ?_
 refine c5 a5p ?_
 refine c7 (l1 Tryd.isAgg23 d rfl) ?_
 refine c5 (a1v _ _ _) ?_
 refine c5 T6 ?_
 refine c5 a0T ?_
 refine c7 (l1 Tryd.isAgg36 d rfl) ?_
 refine c5 (a4F _ _ _) ?_
 refine c5 (a3b _ _) ?_
 refine o3 d Tryd.zeroValue184 (cs := [(vi 0), (vi 0)]) rfl fun c k f l => ?_
 refine o8 f Tryd.sizeOf184 (vs := [(vi (x0.m4.i8.n : Int)), (vi (x0.m4.r9.n : Int))]) fun m b p => ?_
 refine c5 T6 ?_
 refine c5 a7m ?_
 refine c7 (l1 Tryd.isAgg3 (b.bring 1) rfl) ?_
 refine c5 (f9 _ _ _ _ _ _) ?_
 refine d6 h (fun _ h => ?_) (fun _ h => ?_)
 ·refine c5 T6 ?_
  refine c5 a3U ?_
  refine c7 (l1 Tryd.isAgg3 (b.bring 1) rfl) ?_
  refine c5 (a3Q _ _ _ _ _ _) ?_
  refine c5 (Pu.g fun hb => by have a := hb; with_reducible exact T6) ?_
  refine c5 (Pu.g fun hb => by have a := hb; simp only [f8 a]; with_reducible exact a3U) ?_
  refine c7 (Ld.g fun hb => by have a := hb; simp only [f8 a]; exact (l1 Tryd.isAgg3 (b.bring 1) rfl)) ?_
  refine c5 (Pu.g fun hb => by have a := hb; simp only [f8 a]; with_reducible exact (a8g _ _ _ _ _ _)) ?_
  refine c5 (B9 _ _) ?_
  refine c7 (Ld.g fun hb => by have a := hb; exact (ldA Tryd.isAgg184 Tryd.sizeOf184 rfl (b.at1 (o := 0) (vs := [(vi (x0.m4.i8.n : Int)), (vi (x0.m4.r9.n : Int))]) (nb rfl) rfl))) ?_
  refine c5 (Pu.g fun hb => by have a := hb; with_reducible exact (a3b _ _)) ?_
  refine c5 (Pu.g fun hb => by have a := hb; simp only [f8 a]; with_reducible exact (a6p _ _ _ _ _ _)) ?_
  refine c5 (B9 _ _) ?_
  exact hR _ H _ _ b.drop.drop ⟨(((decide (1 ≤ x0.m4.fOp)) && (decide (x0.m4.fOp ≤ 6))) && (decide ((x0.m4.i8.n : Int) = 2 ∧ (x0.m4.r9.n : Int) = 0))), rfl, rfl, h⟩
 ·refine c5 T6 ?_
  refine c5 a3U ?_
  refine c7 (l1 Tryd.isAgg3 (b.bring 1) rfl) ?_
  refine c5 (J9 _ _ _ _ _ _) ?_
  refine a7d h (fun _ h => ?_) (fun _ h => ?_)
  ·exact hR _ H _ _ b.drop.drop ⟨false, rfl, rfl, h⟩
  ·refine c5 T6 ?_
   refine c5 a7m ?_
   refine c7 (l1 Tryd.isAgg3 (b.bring 1) rfl) ?_
   have hj1 : ∀ (a8S : Bool) (H : Hp) (w : World) (_ : Inv w0 ps0 H0 H [bx c 184 [(vi (l9.mk (x0.m4.i8.n : Int) (x0.m4.r9.n : Int)).fexprs), (vi (l9.mk (x0.m4.i8.n : Int) (x0.m4.r9.n : Int)).fparts)], bx e 181 (l7 x0.m4)] w) (_ : D9 x0.m4.d4 a8S (l9.mk (x0.m4.i8.n : Int) (x0.m4.r9.n : Int)) x0 H K), b0z (Value.pointer (some ⟨c, 0, none⟩)) (vi x0.m4.d4) (Value.bool a8S) w R E := by
    intro a8S H w I h
    unfold b0z
    intro _
    unfold D9 at h
    refine o5 h (fun _ h => ?_) (fun _ h => ?_)
    ·refine c7 (ldA Tryd.isAgg184 Tryd.sizeOf184 rfl (I.at1 (o := 0) (vs := [(vi (l9.mk (x0.m4.i8.n : Int) (x0.m4.r9.n : Int)).fexprs), (vi (l9.mk (x0.m4.i8.n : Int) (x0.m4.r9.n : Int)).fparts)]) (nb rfl) rfl)) ?_
     refine c5 (b4m ) ?_
     refine c5 (a6p _ _ _ _ _ _) ?_
     exact hR _ H _ _ I.drop.drop ⟨(decide ((l9.mk (x0.m4.i8.n : Int) (x0.m4.r9.n : Int)).fexprs = 0 ∧ (l9.mk (x0.m4.i8.n : Int) (x0.m4.r9.n : Int)).fparts = 0)), rfl, rfl, h⟩
    ·refine c5 (f9 _ _ _ _ _ _) ?_
     refine d6 h (fun _ h => ?_) (fun _ h => ?_)
     ·refine c7 (ldA Tryd.isAgg184 Tryd.sizeOf184 rfl (I.at1 (o := 0) (vs := [(vi (l9.mk (x0.m4.i8.n : Int) (x0.m4.r9.n : Int)).fexprs), (vi (l9.mk (x0.m4.i8.n : Int) (x0.m4.r9.n : Int)).fparts)]) (nb rfl) rfl)) ?_
      refine c5 (a3b _ _) ?_
      refine c5 (a6p _ _ _ _ _ _) ?_
      exact hR _ H _ _ I.drop.drop ⟨(decide ((l9.mk (x0.m4.i8.n : Int) (x0.m4.r9.n : Int)).fexprs = 0 ∧ (l9.mk (x0.m4.i8.n : Int) (x0.m4.r9.n : Int)).fparts = 1)), rfl, rfl, h⟩
     ·have hj2 : ∀ (a8R : Bool) (H : Hp) (w : World) (_ : Inv w0 ps0 H0 H [bx c 184 [(vi (l9.mk (x0.m4.i8.n : Int) (x0.m4.r9.n : Int)).fexprs), (vi (l9.mk (x0.m4.i8.n : Int) (x0.m4.r9.n : Int)).fparts)], bx e 181 (l7 x0.m4)] w) (_ : D8 a8R (l9.mk (x0.m4.i8.n : Int) (x0.m4.r9.n : Int)) x0 H K), b0y (Value.pointer (some ⟨c, 0, none⟩)) (Value.bool a8R) w R E := by
       intro a8R H w I h
       unfold b0y
       intro _
       unfold D8 at h
       refine o5 h (fun _ h => ?_) (fun _ h => ?_)
       ·refine c7 (ldA Tryd.isAgg184 Tryd.sizeOf184 rfl (I.at1 (o := 0) (vs := [(vi (l9.mk (x0.m4.i8.n : Int) (x0.m4.r9.n : Int)).fexprs), (vi (l9.mk (x0.m4.i8.n : Int) (x0.m4.r9.n : Int)).fparts)]) (nb rfl) rfl)) ?_
        refine c5 (a3b _ _) ?_
        refine c5 (a6p _ _ _ _ _ _) ?_
        exact hR _ H _ _ I.drop.drop ⟨(decide ((l9.mk (x0.m4.i8.n : Int) (x0.m4.r9.n : Int)).fexprs = 0 ∧ (l9.mk (x0.m4.i8.n : Int) (x0.m4.r9.n : Int)).fparts = 2)), rfl, rfl, h⟩
       ·exact hR _ H _ _ I.drop.drop ⟨false, rfl, rfl, h⟩
      refine p8 fun j2 hx2 => ?_
      refine c5 (f9 _ _ _ _ _ _) ?_
      refine d6 h (fun _ h => ?_) (fun _ h => ?_)
      ·exact hx2 _ _ (hj2 (decide (x0.m4.d4 = 5)) H _ ((I.bring 1).bring 1) h)
      ·refine c5 (f9 _ _ _ _ _ _) ?_
       exact hx2 _ _ (hj2 (decide (x0.m4.d4 = 6)) H _ ((I.bring 1).bring 1) h)
   refine p8 fun j1 hx1 => ?_
   refine c5 (f9 _ _ _ _ _ _) ?_
   refine d6 h (fun _ h => ?_) (fun _ h => ?_)
   ·exact hx1 _ _ (hj1 (decide (x0.m4.d4 = 1)) H _ ((b.bring 1).bring 1) h)
   ·refine c5 (f9 _ _ _ _ _ _) ?_
    exact hx1 _ _ (hj1 (decide (x0.m4.d4 = 2)) H _ ((b.bring 1).bring 1) h)
def a0A (x0 : I0) (H : Hp) (K : Sl → Hp → Prop) : Prop :=
 q7 x0.m4.i8 H (fun d e =>
 v6 x0.m4.r9 e (fun f g =>
 ∀ (a : Sl) (b : Hp), Hle g b → SlH b 1 csl a [d, f] → a.n ≤ a.c →
 u7 a b (fun i j =>
 K i j)))
theorem a6i (x0 : I0) {H : Hp} {K : Sl → Hp → Prop} (h : a0A x0 H K) : a2G x0 H K := by
 refine Ct.of fun w0 w ps0 H0 R E I hR => b8E ?_
 unfold a0A at h
 unfold c0Y
 refine A5 I (cs := (l7 x0.m4)) rfl fun v y b z => ?_
 refine L5 b fun aa a => ?_
 refine d7 T6 ?_
 refine d7 a5p ?_
 refine d7 T6 ?_
 refine d7 a0T ?_
 refine o4 (l1 Tryd.isAgg23 a rfl) ?_
 refine o4 (l1 Tryd.isAgg36 a rfl) ?_
 refine f7 Tryd.call97 h a ?_
 rintro _ _ _ ab d _ f ⟨g, rfl, rfl, h⟩
 refine ⟨(f _ a.lt1 (Inv.L6 (Fi := []) a)), ?_⟩
 refine f7 Tryd.call95 h d ?_
 rintro _ _ _ ac i _ _ ⟨j, rfl, rfl, h⟩
 refine X8 (e := 123) (c := csl) (xs := [g, j]) i (b1Q _ _ _ _ _ _) rfl rfl a8F a8G (nb rfl) fun k ad ae l m af => ?_
 obtain ⟨n, o, p, q, r⟩ := Inv.freezeC m l (by decide)
 replace h := h k n p q r
 refine f7 Tryd.call55 h o ?_
 rintro _ s _ ag t _ _ ⟨u, rfl, rfl, h⟩
 exact hR _ s _ _ t.drop ⟨u, rfl, rfl, h⟩
end Go.Proofs.YtaokfhdinhimfaaDoor
