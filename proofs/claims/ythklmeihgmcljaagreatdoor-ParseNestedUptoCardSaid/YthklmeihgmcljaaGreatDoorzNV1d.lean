/- Typed formulas of the program's functions, and the theorems that the contracts follow from them; printed by lift.py off the code. -/
import Derived.Test.YthklmeihgmcljaaGreatDoorzNV1
namespace Go.Proofs.YthklmeihgmcljaaGreatDoor
open Go.RowKit
set_option maxRecDepth 100000
set_option maxHeartbeats 2000000
def a3x (H : Hp) (K : Bool → Hp → Prop) : Prop :=
 Y3 ⟨#[118, 97, 114, 32, 120, 59, 32, 120, 32, 61, 32, 49, 32, 43, 32, 50, 32, 42, 32, 120, 59]⟩ H (fun a k b i =>
 Y3 ⟨#[120, 32, 61, 32, 59]⟩ i (fun l f j c =>
 ∃ d : g5, ((((decide (b = 0)) && (decide ((a.a3A.n : Int) = 1))) && (decide ((a.a2f.n : Int) = 1))) = true → (0 : Int) ≤ 0 ∧ (0 : Int) < a.a2f.n ∧ EltH c a.a2f 0 6 (t7 d)) ∧
 ∃ e : g5, (((((decide (b = 0)) && (decide ((a.a3A.n : Int) = 1))) && (decide ((a.a2f.n : Int) = 1))) && (decide ((d.m5.n : Int) = 1))) = true → (0 : Int) ≤ 0 ∧ (0 : Int) < a.a2f.n ∧ EltH c a.a2f 0 6 (t7 e)) ∧
 ∃ g : d7, (((((decide (b = 0)) && (decide ((a.a3A.n : Int) = 1))) && (decide ((a.a2f.n : Int) = 1))) && (decide ((d.m5.n : Int) = 1))) = true → (0 : Int) ≤ 0 ∧ (0 : Int) < e.m5.n ∧ EltH c e.m5 0 4 (f9 g)) ∧
 K (((((((decide (b = 0)) && (decide ((a.a3A.n : Int) = 1))) && (decide ((a.a2f.n : Int) = 1))) && (decide ((d.m5.n : Int) = 1))) && (decide (g.g6 = 6))) && (decide (j = 40))) && (decide (f.A6 = 1 ∧ f.E7 = 5))) c))
theorem a6z {H K} (h : a3x H K) : a1f H K := by
 refine Ct.of fun w0 w ps0 H0 R E I hR => c5v ?_
 unfold a3x at h
 unfold F8
 refine g8 Tryz.call9 h I ?_
 rintro _ _ _ af s _ _ ⟨f, o, p, rfl, rfl, h⟩
 refine b5 (j8 _ _ _ rfl) (b5 (j8 _ _ _ rfl) (b5 (j8 _ _ (vi p) rfl) ?_))
 refine p8 s Tryz.zeroValue26 (cs := [(nS), (nS)]) rfl fun ag ah t ai => ?_
 refine p8 t Tryz.zeroValue28 (cs := [(vi 0), (vi 0)]) rfl fun aj ak u al => ?_
 refine g7 (u.bring 1) Tryz.sizeOf26 (vs := (p9 f)) (cs' := (p9 f)) rfl rfl (nb rfl) rfl rfl fun am y an => ?_
 refine g7 (y.bring 1) Tryz.sizeOf28 (vs := (j9 o)) (cs' := (j9 o)) rfl rfl (nb rfl) rfl rfl fun ao z ap => ?_
 refine g8 Tryz.call9 h z ?_
 rintro _ aa _ aq ab _ _ ⟨q, i, r, rfl, rfl, h⟩
 refine b5 (j8 _ _ _ rfl) (b5 (j8 _ _ _ rfl) (b5 (j8 _ _ (vi r) rfl) ?_))
 refine p8 ab Tryz.zeroValue26 (cs := [(nS), (nS)]) rfl fun ar au ac av => ?_
 refine p8 ac Tryz.zeroValue28 (cs := [(vi 0), (vi 0)]) rfl fun aw ax ad ay => ?_
 refine g7 (ad.bring 1) Tryz.sizeOf26 (vs := (p9 q)) (cs' := (p9 q)) rfl rfl (nb rfl) rfl rfl fun az ae ba => ?_
 refine g7 (ae.bring 1) Tryz.sizeOf28 (vs := (j9 i)) (cs' := (j9 i)) rfl rfl (nb rfl) rfl rfl fun bb b bc => ?_
 refine b5 pEq ?_
 refine b5 (Pu.g fun a => by with_reducible exact a6s) ?_
 refine g9 (Ld.g fun a => by simp only [o9 a]; exact (l1 Tryz.isAgg23 (b.bring 3) rfl)) ?_
 refine b5 (Pu.g fun a => by simp only [o9 a]; with_reducible exact (b2k _ _ _)) ?_
 refine b5 (Pu.g fun a => by simp only [o9 a]; with_reducible exact pEq) ?_
 refine b5 (F6 _ _) ?_
 refine b5 (Pu.g fun a => by with_reducible exact a2L) ?_
 refine g9 (Ld.g fun a => by simp only [o9 a]; exact (l1 Tryz.isAgg24 (b.bring 3) rfl)) ?_
 refine b5 (Pu.g fun a => by simp only [o9 a]; with_reducible exact (a4E _ _ _)) ?_
 refine b5 (Pu.g fun a => by simp only [o9 a]; with_reducible exact pEq) ?_
 refine b5 (F6 _ _) ?_
 refine b5 (Pu.g fun a => by with_reducible exact a2L) ?_
 refine g9 (Ld.g fun a => by simp only [o9 a]; exact (l1 Tryz.isAgg24 (b.bring 3) rfl)) ?_
 obtain ⟨j, c, h⟩ := h
 obtain ⟨bd, be, c⟩ := b6l c
 refine b5 (Pu.g fun hb => by have a := hb; simp only [o9 a]; with_reducible exact (a9W (c hb).2.2.1 _ _ _ _ (c hb).1 (c hb).2.1)) ?_
 refine b5 (Pu.g fun a => by simp only [o9 a]; with_reducible exact a2g) ?_
 refine g9 (Ld.g fun hb => by have a := hb; simp only [o9 a]; exact (ld1 (v := (vs j.m5)) Tryz.isAgg38 ((b.atH (c hb).2.2.2).sub (k := 2) (n := 1) (nb rfl)))) ?_
 refine b5 (Pu.g fun a => by simp only [o9 a]; with_reducible exact (a5S _ _ _)) ?_
 refine b5 (Pu.g fun a => by simp only [o9 a]; with_reducible exact pEq) ?_
 refine b5 (F6 _ _) ?_
 refine b5 (Pu.g fun a => by with_reducible exact a2L) ?_
 refine g9 (Ld.g fun a => by simp only [o9 a]; exact (l1 Tryz.isAgg24 (b.bring 3) rfl)) ?_
 obtain ⟨m, d, h⟩ := h
 obtain ⟨bf, bg, d⟩ := b6l d
 refine b5 (Pu.g fun hb => by have a := hb; simp only [o9 a]; with_reducible exact (a9W (d hb).2.2.1 _ _ _ _ (d hb).1 (d hb).2.1)) ?_
 refine b5 (Pu.g fun a => by simp only [o9 a]; with_reducible exact a2g) ?_
 refine g9 (Ld.g fun hb => by have a := hb; simp only [o9 a]; exact (ld1 (v := (vs m.m5)) Tryz.isAgg38 ((b.atH (d hb).2.2.2).sub (k := 2) (n := 1) (nb rfl)))) ?_
 obtain ⟨l, e, h⟩ := h
 obtain ⟨bh, bi, e⟩ := b6l e
 refine b5 (Pu.g fun hb => by have a := hb; simp only [o9 a]; with_reducible exact (b3h (e hb).2.2.1 _ _ _ _ (e hb).1 (e hb).2.1)) ?_
 refine b5 (Pu.g fun a => by simp only [o9 a]; with_reducible exact a4W) ?_
 refine g9 (Ld.g fun hb => by have a := hb; simp only [o9 a]; exact (ld1 (v := (vi l.g6)) Tryz.isAgg3 ((b.atH (e hb).2.2.2).sub (k := 0) (n := 1) (nb rfl)))) ?_
 refine b5 (Pu.g fun a => by simp only [o9 a]; with_reducible exact pEq) ?_
 refine b5 (F6 _ _) ?_
 simp only [D2]
 refine b5 (Pu.g fun a => by simp only [o9 a]; with_reducible exact pEq) ?_
 refine b5 (F6 _ _) ?_
 refine g9 (Ld.g fun a => by exact (lW Tryz.isAgg28 Tryz.sizeOf28 rfl b)) ?_
 refine b5 (Pu.g fun a => by with_reducible exact (a6c _ _)) ?_
 refine b5 (Pu.g fun a => by simp only [o9 a]; with_reducible exact (a9V _ _ _ _ _ _)) ?_
 refine b5 (F6 _ _) ?_
 exact hR _ aa _ _ b.drop.drop.drop.drop ⟨(((((((decide (p = 0)) && (decide ((f.a3A.n : Int) = 1))) && (decide ((f.a2f.n : Int) = 1))) && (decide ((j.m5.n : Int) = 1))) && (decide (l.g6 = 6))) && (decide (r = 40))) && (decide (i.A6 = 1 ∧ i.E7 = 5))), rfl, rfl, h⟩
def a2i (x0 : b8) (x1 : ByteArray) (H : Hp) (K : Bool → b8 → Hp → Prop) : Prop :=
 u1 x0 x1 H (fun a b =>
 ((!a) = true →
 K false x0 b) ∧
 ((!a) = false →
 K true (b8.mk x0.fl (IntKind.wrap .i64 (x0.fat + 1)) x0.fbad x0.fpos) b))
theorem a2j (x0 x1) {H K} (h : a2i x0 x1 H K) : N7 x0 x1 H K := by
 intro g0
 refine Ct.of fun w0 w ps0 H0 R E I hR => c2I ?_
 unfold a2i at h
 unfold F67
 refine g8 Tryz.call23 (h g0) I ?_
 rintro _ b _ d a _ _ ⟨e, rfl, rfl, h⟩
 refine b5 (U5 _) ?_
 refine p5 h (fun _ h => ?_) (fun _ h => ?_)
 ·exact hR _ b _ _ a ⟨false, x0, rfl, rfl, h⟩
 ·refine b5 (s9 _) (b5 a2M (g9 (l1 Tryz.isAgg3 a rfl) (b5 pAd (b5 (s9 _) ?_))))
  refine b5 a2M ?_
  refine g7 a Tryz.sizeOf3 (vs := [(vi (IntKind.wrap .i64 (x0.fat + 1)))]) (cs' := [(vs x0.fl), (vi (IntKind.wrap .i64 (x0.fat + 1))), (vi x0.fbad), (vi x0.fpos.A6), (vi x0.fpos.E7)]) rfl rfl (nb rfl) rfl rfl fun f c g => ?_
  exact hR _ b _ _ c ⟨true, (b8.mk x0.fl (IntKind.wrap .i64 (x0.fat + 1)) x0.fbad x0.fpos), rfl, rfl, h⟩
def A9 (c7h : Int) (a7v : Int) (a5g : b8) (d : d7) (e : d7) (H : Hp) (n2 : (d7 × b8 × d7) → Hp → Prop) (K : d7 → b8 → Hp → Prop) : Prop :=
 S1 (b8.mk a5g.fl (IntKind.wrap .i64 (a5g.fat + 1)) a5g.fbad a5g.fpos) c7h H (fun f g i =>
 ∀ (a : Sl) (b : Hp), Hle i b → SlH b 4 f9 a [d, f] → a.n ≤ a.c →
 n2 ((d7.mk a7v 0 ⟨#[]⟩ a), g, e) b)
def P8 (t8 : b8) (a : d7) (b : d7) (H : Hp) (K : d7 → b8 → Hp → Prop) : Prop :=
 K a t8 H
def P9 (a3I : Int) (a : d7) (m9 : b8) (b : d7) (H : Hp) (n2 : (d7 × b8 × d7) → Hp → Prop) (K : d7 → b8 → Hp → Prop) : Prop :=
 u1 m9 ⟨#[43]⟩ H (fun c d =>
 TG (c = false) (u1 m9 ⟨#[45]⟩ d) false d (fun (e : Bool) (f : Hp) =>
 ((c || e) = true →
 u1 m9 ⟨#[45]⟩ f (fun g i =>
 (g = true →
 A9 a3I 7 m9 a b i n2 K) ∧
 (g = false →
 A9 a3I 6 m9 a b i n2 K))) ∧
 ((c || e) = false →
 P8 m9 a b f K)))
def X7 (x0 : b8) (x1 : Int) (H : Hp) (K : d7 → b8 → Hp → Prop) : Prop :=
 S1 x0 x1 H (fun a b c =>
 TL ((a, b, (d7.mk 0 0 ⟨#[]⟩ (Sl.mk none 0 0))) : d7 × b8 × d7) c fun (s : d7 × b8 × d7) H n2 => P9 x1 s.1 s.2.1 s.2.2 H n2 K)
theorem a4Q (x0 x1) {H K} (h : X7 x0 x1 H K) : a1L x0 x1 H K := by
 intro g0
 refine Ct.of fun w0 w ps0 H0 R E I hR => c2w ?_
 unfold X7 at h
 unfold F37
 refine p8 I Tryz.zeroValue40 (cs := [(vi 0), (vi 0), (eS), (nS)]) rfl fun m bn aq bo => ?_
 refine g8 Tryz.call83 (h g0) (aq.bring 1) ?_
 rintro _ ar _ bp au _ _ ⟨aa, av, rfl, rfl, h⟩
 refine p8 au Tryz.zeroValue40 (cs := [(vi 0), (vi 0), (eS), (nS)]) rfl fun p bq aw br => ?_
 refine g7 aw Tryz.sizeOf40 (vs := (f9 aa)) (cs' := (f9 aa)) rfl rfl (nb rfl) rfl rfl fun bs ax bt => ?_
 have hj1 : ∀ (t8 : b8) (j : d7) (ab : d7) H w (_ : Inv w0 ps0 H0 H [bx g0 66 (l0 t8), bx p 40 (f9 j), bx m 40 (f9 ab)] w) (_ : P8 t8 j ab H K), b3x (Value.pointer (some ⟨m, 0, none⟩)) (Value.pointer (some ⟨p, 0, none⟩)) w R E := by
  intro t8 j ab H w I h
  unfold b3x
  intro _
  unfold P8 at h
  refine g9 (lW Tryz.isAgg40 Tryz.sizeOf40 rfl (I.bring 1)) ?_
  refine g7 (I.bring 2) Tryz.sizeOf40 (vs := (f9 j)) (cs' := (f9 j)) rfl rfl (nb rfl) rfl rfl fun bu af bv => ?_
  refine y2 Tryz.isAgg40 Tryz.sizeOf40 rfl (af.at1 (o := 0) (vs := (f9 j)) (nb rfl) rfl) ?_
  exact hR _ H _ _ (af.drop.bring 1).drop ⟨j, t8, rfl, rfl, h⟩
 refine v8 fun j1 hx1 => ?_
 obtain ⟨ac, r, ay, az⟩ := h
 refine E9 (J := fun n l w => ∃ (s : d7 × b8 × d7) (H : Hp) , n = r s ∧ l = (match s with | (d, m9, f) => []) ∧ (match s with | (d, m9, f) => Inv w0 ps0 H0 H [bx p 40 (f9 d), bx g0 66 (l0 m9), bx m 40 (f9 f)] w) ∧ ac s H) ⟨_, (aa, av, (d7.mk 0 0 ⟨#[]⟩ (Sl.mk none 0 0))), ar, rfl, rfl, (((ax.bring 2).bring 2).bring 2), ay⟩ ?_
 rintro bw bz w next2 ⟨⟨d, m9, f⟩, H, rfl, ag, I, ba⟩ hn2
 dsimp only at ag I
 clear ag
 obtain ⟨n2, hm2, h⟩ : ∃ n2 : (d7 × b8 × d7) → Hp → Prop, (∀ s' H', n2 s' H' → ac s' H' ∧ r s' < r (d, m9, f)) ∧ P9 x1 d m9 f H n2 K := ⟨_, fun _ _ h => h, az (d, m9, f) H (fun s' H' => ac s' H' ∧ r s' < r (d, m9, f)) ba (fun _ _ a b => ⟨a, b⟩)⟩
 unfold b7v
 unfold P9 at h
 refine g8 Tryz.call23 (h g0) (I.bring 1) ?_
 rintro _ ah _ ai aj _ _ ⟨ad, rfl, rfl, h⟩
 simp only [D2]
 refine N6 (D := fun ak u => ∃ (q : Bool) (g : Hp) , ak = (gv ad false (vB q)) ∧ (Inv w0 ps0 H0 g [bx g0 66 (l0 m9), bx p 40 (f9 d), bx m 40 (f9 f)] u) ∧ (∀ i, i < ai.heap.size → ¬ inF [bx g0 66 (l0 m9)] i → u.heap[i]? = ai.heap[i]?) ∧ Hle ah g ∧ (((ad || q) = true →
 u1 m9 ⟨#[45]⟩ g (fun (ae : Bool) (t : Hp) =>
 (ae = true →
 A9 x1 7 m9 d f t n2 K) ∧
 (ae = false →
 A9 x1 6 m9 d f t n2 K))) ∧
 ((ad || q) = false →
 P8 m9 d f g K))) (fun k => ?_) (fun k => ?_) ?_
 ·replace h := h.1 k
  have al := k
  simp only [o9 al]
  refine g8 Tryz.call23 (h g0) aj ?_
  rintro _ g _ u v am an ⟨q, rfl, rfl, h⟩
  exact ⟨q, g, by rfl, v, an, am, h⟩
 ·exact ⟨false, ah, by rw [W9 k], aj, fun _ _ _ => rfl, Hle.refl _, h.2 k⟩
 ·clear h
  rintro ak u ⟨q, g, rfl, v, an, am, h⟩
  refine b5 (N5 _ _) ?_
  refine p5 h (fun _ h => ?_) (fun _ h => ?_)
  ·have hj3 : ∀ (a7v : Int) H w (_ : Inv w0 ps0 H0 H [bx g0 66 (l0 m9), bx p 40 (f9 d), bx m 40 (f9 f)] w) (_ : A9 x1 a7v m9 d f H n2 K), b3y (Value.pointer (some ⟨g0, 0, none⟩)) (vi x1) (Value.pointer (some ⟨m, 0, none⟩)) (Value.pointer (some ⟨p, 0, none⟩)) (vi a7v) w next2 R E := by
    intro a7v H w I h
    unfold b3y
    intro _
    unfold A9 at h
    refine b5 (s9 _) (b5 a2M (g9 (l1 Tryz.isAgg3 I rfl) (b5 pAd (b5 (s9 _) ?_))))
    refine b5 a2M ?_
    refine g7 I Tryz.sizeOf3 (vs := [(vi (IntKind.wrap .i64 (m9.fat + 1)))]) (cs' := [(vs m9.fl), (vi (IntKind.wrap .i64 (m9.fat + 1))), (vi m9.fbad), (vi m9.fpos.A6), (vi m9.fpos.E7)]) rfl rfl (nb rfl) rfl rfl fun ca bb cb => ?_
    refine V7 bb fun cc y => ?_
    refine C7 (lW Tryz.isAgg40 Tryz.sizeOf40 rfl (y.bring 1)) ?_
    refine g8 Tryz.call83 (h g0) y ?_
    rintro _ _ _ cd bc _ bd ⟨be, bf, rfl, rfl, h⟩
    refine ⟨(bd _ (y.bring 1).lt1 (Inv.Y1 (Fi := [bx g0 66 [(vs m9.fl), (vi (IntKind.wrap .i64 (m9.fat + 1))), (vi m9.fbad), (vi m9.fpos.A6), (vi m9.fpos.E7)]]) ((y.bring 1).bring 1))), ?_⟩
    refine U7 (e := 40) (c := f9) (xs := [d, be]) bc (a9g _ _ _ _ _ _ _ _ _ _ _ _) rfl rfl M5 M6 (nb rfl) fun z ce cf bg bh cg => ?_
    refine p7 (a4t _ _ _ _) ?_
    refine g7 (bh.bring 2) Tryz.sizeOf40 (vs := [(vi a7v), (vi 0), (eS), (vs z)]) (cs' := [(vi a7v), (vi 0), (eS), (vs z)]) rfl rfl (nb rfl) rfl rfl fun ch bi ci => ?_
    obtain ⟨ao, bj, bk, bl, bm⟩ := Inv.freezeC (bi.bring 1) bg (by decide)
    replace h := h z ao bk bl bm
    exact hn2 _ _ _ (hm2 _ _ h).2 ⟨((d7.mk a7v 0 ⟨#[]⟩ z), bf, f), ao, rfl, rfl, (((bj.bring 2).bring 2).bring 2), (hm2 _ _ h).1⟩
   refine v8 fun j3 hx3 => ?_
   refine g8 Tryz.call23 (h g0) v ?_
   rintro _ t _ cj ap _ _ ⟨ae, rfl, rfl, h⟩
   refine p5 h (fun _ h => ?_) (fun _ h => ?_)
   ·exact hx3 _ _ (hj3 7 t _ (((ap.bring 2).bring 2).bring 2) h)
   ·exact hx3 _ _ (hj3 6 t _ (((ap.bring 2).bring 2).bring 2) h)
  ·exact hx1 _ _ (hj1 m9 d f g _ (((v.bring 2).bring 2).bring 2) h)
def B6 (T0 : (List d8)) (H : Hp) (K : Sl → Hp → Prop) : Prop :=
 ∀ (D1 : Sl) (a : Hp), Hle H a → SlH a 1 u0 D1 T0 → D1.n ≤ D1.c →
 K D1 a
def B7 (A8 : Sl) (a3J : Int) (u6 : (List d8)) (s8 : Int) (H : Hp) (n2 : ((List d8) × Int) → Hp → Prop) (K : Sl → Hp → Prop) : Prop :=
 (s8 < a3J →
 (0 : Int) ≤ s8 ∧ (s8 : Int) < A8.n ∧ ∃ a : l8, EltH H A8 s8 2 (A0 a) ∧
 a5a a H (fun b c =>
 (u6.length + ([b] : List d8).length) * 17 ≤ 140737488355328 ∧
 n2 ((u6 ++ [b]), (IntKind.wrap .i64 (s8 + 1))) c)) ∧
 (¬ (s8 < a3J) →
 B6 u6 H K)
def G5 (x0 : Sl) (H : Hp) (K : Sl → Hp → Prop) : Prop :=
 TL (([], 0) : (List d8) × Int) H fun (s : (List d8) × Int) H n2 => B7 x0 (x0.n : Int) s.1 s.2 H n2 K
theorem a0i (x0) {H K} (h : G5 x0 H K) : G1 x0 H K := by
 refine Ct.of fun w0 w ps0 H0 R E I hR => c2L ?_
 unfold G5 at h
 unfold F76
 have hj1 : ∀ (T0 : (List d8)) (D1 : Sl) (Fs5j1 : Frag) H w (_ : RowL 131 1 u0 D1 T0 Fs5j1) (_ : Inv w0 ps0 H0 H [Fs5j1] w) (_ : B6 T0 H K), b3K (vs D1) w R E := by
  intro T0 D1 Fs5j1 H w a6x I h
  unfold b3K
  intro _
  unfold B6 at h
  obtain ⟨k, q, r, t, u⟩ := Inv.freezeC I a6x (by decide)
  replace h := h D1 k r t u
  exact hR _ k _ _ q ⟨D1, rfl, rfl, h⟩
 refine v8 fun j1 hx1 => ?_
 refine b5 (b2k _ _ _) ?_
 obtain ⟨f, d, v, y⟩ := h
 refine E9 (J := fun n l w => ∃ (s : (List d8) × Int) (H : Hp) (T2 : Sl) (Fs5l2 : Frag) , n = d s ∧ l = (match s with | (u6, s8) => [(vs T2), (vi s8)]) ∧ (match s with | (u6, s8) => RowL 131 1 u0 T2 u6 Fs5l2) ∧ (match s with | (u6, s8) => Inv w0 ps0 H0 H [Fs5l2] w) ∧ f s H) ⟨_, ([], 0), H, (Sl.mk none 0 0), [], rfl, rfl, (RowL.nil Q0 S5), I.nil, v⟩ ?_
 rintro am an w next2 ⟨⟨u6, s8⟩, H, T2, Fs5l2, rfl, g, a1h, I, z⟩ hn2
 dsimp only at g I a1h
 simp only [List.map_cons, List.map_nil, List.cons.injEq, and_true] at g
 obtain ⟨e5, e10⟩ := g
 simp only [e5, e10]
 obtain ⟨n2, hm2, h⟩ : ∃ n2 : ((List d8) × Int) → Hp → Prop, (∀ s' H', n2 s' H' → f s' H' ∧ d s' < d (u6, s8)) ∧ B7 x0 (x0.n : Int) u6 s8 H n2 K := ⟨_, fun _ _ h => h, y (u6, s8) H (fun s' H' => f s' H' ∧ d s' < d (u6, s8)) z (fun _ _ a b => ⟨a, b⟩)⟩
 unfold b7B
 unfold B7 at h
 refine b5 pLs ?_
 refine k7 h (fun _ h => ?_) (fun _ h => ?_)
 ·obtain ⟨aa, ab, i, j, h⟩ := h
  obtain ⟨ao, ap, ac, j⟩ := j
  refine b5 (b8z ac _ _ _ _ aa ab) (g9 (ldA (vs := (A0 i)) Tryz.isAgg68 Tryz.sizeOf68 rfl (I.atH j)) ?_)
  refine p8 I Tryz.zeroValue68 (cs := [(eS), (vi 0)]) rfl fun aq ar ad au => ?_
  refine g7 ad Tryz.sizeOf68 (vs := (A0 i)) (cs' := (A0 i)) rfl rfl (nb rfl) rfl rfl fun av m aw => ?_
  refine g9 (lW Tryz.isAgg68 Tryz.sizeOf68 rfl m) ?_
  refine g8 Tryz.call77 h m ?_
  rintro _ ae _ ax af _ _ ⟨o, rfl, rfl, h⟩
  refine U7 (e := 131) (c := u0) (xs := [o]) af (a7T _) rfl rfl Q0 S5 (nb rfl) fun ay az ba ag p bb => ?_
  obtain ⟨ah, h⟩ := h
  refine a7E (s := T2) (xs := u6) (p.bring 2) a1h (ag.srcO ((p.bring 2).bring 1)) ah fun ai aj bc ak al bd => ?_
  refine b5 pAd ?_
  exact hn2 _ _ _ (hm2 _ _ h).2 ⟨((u6 ++ [o]), (IntKind.wrap .i64 (s8 + 1))), ae, ai, aj, rfl, rfl, ak, ((al.bring 1).drop.bring 1).drop, (hm2 _ _ h).1⟩
 ·exact hx1 _ _ (hj1 u6 T2 Fs5l2 H _ a1h I h)
def B8 (T0 : (List d8)) (H : Hp) (K : Sl → Hp → Prop) : Prop :=
 ∀ (D1 : Sl) (a : Hp), Hle H a → SlH a 1 u0 D1 T0 → D1.n ≤ D1.c →
 K D1 a
def B9 (A8 : Sl) (a3J : Int) (u6 : (List d8)) (s8 : Int) (H : Hp) (n2 : ((List d8) × Int) → Hp → Prop) (K : Sl → Hp → Prop) : Prop :=
 (s8 < a3J →
 (0 : Int) ≤ s8 ∧ (s8 : Int) < A8.n ∧ ∃ a : g5, EltH H A8 s8 6 (t7 a) ∧
 a5b a H (fun b c =>
 (u6.length + ([b] : List d8).length) * 17 ≤ 140737488355328 ∧
 n2 ((u6 ++ [b]), (IntKind.wrap .i64 (s8 + 1))) c)) ∧
 (¬ (s8 < a3J) →
 B8 u6 H K)
def G6 (x0 : Sl) (H : Hp) (K : Sl → Hp → Prop) : Prop :=
 TL (([], 0) : (List d8) × Int) H fun (s : (List d8) × Int) H n2 => B9 x0 (x0.n : Int) s.1 s.2 H n2 K
theorem a0j (x0) {H K} (h : G6 x0 H K) : y9 x0 H K := by
 refine Ct.of fun w0 w ps0 H0 R E I hR => c2N ?_
 unfold G6 at h
 unfold F78
 have hj1 : ∀ (T0 : (List d8)) (D1 : Sl) (Fs5j1 : Frag) H w (_ : RowL 131 1 u0 D1 T0 Fs5j1) (_ : Inv w0 ps0 H0 H [Fs5j1] w) (_ : B8 T0 H K), b3L (vs D1) w R E := by
  intro T0 D1 Fs5j1 H w a6x I h
  unfold b3L
  intro _
  unfold B8 at h
  obtain ⟨k, q, r, t, u⟩ := Inv.freezeC I a6x (by decide)
  replace h := h D1 k r t u
  exact hR _ k _ _ q ⟨D1, rfl, rfl, h⟩
 refine v8 fun j1 hx1 => ?_
 refine b5 (a4E _ _ _) ?_
 obtain ⟨f, d, v, y⟩ := h
 refine E9 (J := fun n l w => ∃ (s : (List d8) × Int) (H : Hp) (T2 : Sl) (Fs5l2 : Frag) , n = d s ∧ l = (match s with | (u6, s8) => [(vs T2), (vi s8)]) ∧ (match s with | (u6, s8) => RowL 131 1 u0 T2 u6 Fs5l2) ∧ (match s with | (u6, s8) => Inv w0 ps0 H0 H [Fs5l2] w) ∧ f s H) ⟨_, ([], 0), H, (Sl.mk none 0 0), [], rfl, rfl, (RowL.nil Q0 S5), I.nil, v⟩ ?_
 rintro am an w next2 ⟨⟨u6, s8⟩, H, T2, Fs5l2, rfl, g, a1h, I, z⟩ hn2
 dsimp only at g I a1h
 simp only [List.map_cons, List.map_nil, List.cons.injEq, and_true] at g
 obtain ⟨e5, e10⟩ := g
 simp only [e5, e10]
 obtain ⟨n2, hm2, h⟩ : ∃ n2 : ((List d8) × Int) → Hp → Prop, (∀ s' H', n2 s' H' → f s' H' ∧ d s' < d (u6, s8)) ∧ B9 x0 (x0.n : Int) u6 s8 H n2 K := ⟨_, fun _ _ h => h, y (u6, s8) H (fun s' H' => f s' H' ∧ d s' < d (u6, s8)) z (fun _ _ a b => ⟨a, b⟩)⟩
 unfold b7C
 unfold B9 at h
 refine b5 pLs ?_
 refine k7 h (fun _ h => ?_) (fun _ h => ?_)
 ·obtain ⟨aa, ab, i, j, h⟩ := h
  obtain ⟨ao, ap, ac, j⟩ := j
  refine b5 (a9W ac _ _ _ _ aa ab) (g9 (ldA (vs := (t7 i)) Tryz.isAgg56 Tryz.sizeOf56 rfl (I.atH j)) ?_)
  refine p8 I Tryz.zeroValue56 (cs := [(vi 0), (eS), (nS), (nS), (nS), (nS)]) rfl fun aq ar ad au => ?_
  refine g7 ad Tryz.sizeOf56 (vs := (t7 i)) (cs' := (t7 i)) rfl rfl (nb rfl) rfl rfl fun av m aw => ?_
  refine g9 (lW Tryz.isAgg56 Tryz.sizeOf56 rfl m) ?_
  refine g8 Tryz.call79 h m ?_
  rintro _ ae _ ax af _ _ ⟨o, rfl, rfl, h⟩
  refine U7 (e := 131) (c := u0) (xs := [o]) af (a7T _) rfl rfl Q0 S5 (nb rfl) fun ay az ba ag p bb => ?_
  obtain ⟨ah, h⟩ := h
  refine a7E (s := T2) (xs := u6) (p.bring 2) a1h (ag.srcO ((p.bring 2).bring 1)) ah fun ai aj bc ak al bd => ?_
  refine b5 pAd ?_
  exact hn2 _ _ _ (hm2 _ _ h).2 ⟨((u6 ++ [o]), (IntKind.wrap .i64 (s8 + 1))), ae, ai, aj, rfl, rfl, ak, ((al.bring 1).drop.bring 1).drop, (hm2 _ _ h).1⟩
 ·exact hx1 _ _ (hj1 u6 T2 Fs5l2 H _ a1h I h)
def a4H (x0 : Int) (x1 : Int) (x2 : Int) (H : Hp) (K : Bool → Hp → Prop) : Prop :=
 K ((decide (x0 ≤ x2)) && (decide (x2 ≤ x1))) H
theorem a7I (x0 x1 x2) {H K} (h : a4H x0 x1 x2 H K) : J5 x0 x1 x2 H K := by
 intro g2
 refine Ct.of fun w0 w ps0 H0 R E I hR => c0Q ?_
 unfold a4H at h
 unfold c3B
 refine g9 (l1 Tryz.isAgg21 I rfl) (b5 pLe ?_)
 refine g9 (Ld.g fun a => by exact (l1 Tryz.isAgg21 I rfl)) ?_
 simp only [D2]
 refine b5 (Pu.g fun a => by simp only [o9 a]; with_reducible exact pLe) ?_
 refine b5 (F6 _ _) ?_
 exact hR _ H _ _ I ⟨((decide (x0 ≤ x2)) && (decide (x2 ≤ x1))), rfl, rfl, h⟩
def q8 (z8 : Bool) (H : Hp) (K : Bool → Hp → Prop) : Prop :=
 (z8 = true →
 K true H) ∧
 (z8 = false →
 K false H)
def a4j (x0 : ByteArray) (H : Hp) (K : Bool → Hp → Prop) : Prop :=
 (x0 = ⟨#[118, 97, 114]⟩ →
 q8 (decide (x0 = ⟨#[118, 97, 114]⟩)) H K) ∧
 (¬ (x0 = ⟨#[118, 97, 114]⟩) →
 (x0 = ⟨#[97, 114, 114, 97, 121]⟩ →
 q8 (decide (x0 = ⟨#[97, 114, 114, 97, 121]⟩)) H K) ∧
 (¬ (x0 = ⟨#[97, 114, 114, 97, 121]⟩) →
 (x0 = ⟨#[105, 102]⟩ →
 q8 (decide (x0 = ⟨#[105, 102]⟩)) H K) ∧
 (¬ (x0 = ⟨#[105, 102]⟩) →
 (x0 = ⟨#[101, 108, 115, 101]⟩ →
 q8 (decide (x0 = ⟨#[101, 108, 115, 101]⟩)) H K) ∧
 (¬ (x0 = ⟨#[101, 108, 115, 101]⟩) →
 (x0 = ⟨#[119, 104, 105, 108, 101]⟩ →
 q8 (decide (x0 = ⟨#[119, 104, 105, 108, 101]⟩)) H K) ∧
 (¬ (x0 = ⟨#[119, 104, 105, 108, 101]⟩) →
 (x0 = ⟨#[97, 115, 115, 101, 114, 116]⟩ →
 q8 (decide (x0 = ⟨#[97, 115, 115, 101, 114, 116]⟩)) H K) ∧
 (¬ (x0 = ⟨#[97, 115, 115, 101, 114, 116]⟩) →
 (x0 = ⟨#[97, 115, 115, 117, 109, 101]⟩ →
 q8 (decide (x0 = ⟨#[97, 115, 115, 117, 109, 101]⟩)) H K) ∧
 (¬ (x0 = ⟨#[97, 115, 115, 117, 109, 101]⟩) →
 (x0 = ⟨#[115, 107, 105, 112]⟩ →
 q8 (decide (x0 = ⟨#[115, 107, 105, 112]⟩)) H K) ∧
 (¬ (x0 = ⟨#[115, 107, 105, 112]⟩) →
 (x0 = ⟨#[105, 110, 112, 117, 116]⟩ →
 q8 (decide (x0 = ⟨#[105, 110, 112, 117, 116]⟩)) H K) ∧
 (¬ (x0 = ⟨#[105, 110, 112, 117, 116]⟩) →
 (x0 = ⟨#[116, 114, 117, 101]⟩ →
 q8 (decide (x0 = ⟨#[116, 114, 117, 101]⟩)) H K) ∧
 (¬ (x0 = ⟨#[116, 114, 117, 101]⟩) →
 q8 (decide (x0 = ⟨#[102, 97, 108, 115, 101]⟩)) H K))))))))))
theorem a9H (x0) {H K} (h : a4j x0 H K) : Y9 x0 H K := by
 refine Ct.of fun w0 w ps0 H0 R E I hR => c0U ?_
 unfold a4j at h
 unfold c3F
 have hj1 : ∀ (z8 : Bool) H w (_ : Inv w0 ps0 H0 H [] w) (_ : q8 z8 H K), b1D (vB z8) w R E := by
  intro z8 H w I h
  unfold b1D
  intro _
  unfold q8 at h
  refine p5 h (fun _ h => ?_) (fun _ h => ?_)
  ·exact hR _ H _ _ I ⟨true, rfl, rfl, h⟩
  ·exact hR _ H _ _ I ⟨false, rfl, rfl, h⟩
 refine v8 fun j1 hx1 => ?_
 refine b5 (R6 _ _ _ _ _) ?_
 refine k7 h (fun _ h => ?_) (fun _ h => ?_)
 ·exact hx1 _ _ (hj1 (decide (x0 = ⟨#[118, 97, 114]⟩)) H _ I h)
 ·refine b5 (R6 _ _ _ _ _) ?_
  refine k7 h (fun _ h => ?_) (fun _ h => ?_)
  ·exact hx1 _ _ (hj1 (decide (x0 = ⟨#[97, 114, 114, 97, 121]⟩)) H _ I h)
  ·refine b5 (R6 _ _ _ _ _) ?_
   refine k7 h (fun _ h => ?_) (fun _ h => ?_)
   ·exact hx1 _ _ (hj1 (decide (x0 = ⟨#[105, 102]⟩)) H _ I h)
   ·refine b5 (R6 _ _ _ _ _) ?_
    refine k7 h (fun _ h => ?_) (fun _ h => ?_)
    ·exact hx1 _ _ (hj1 (decide (x0 = ⟨#[101, 108, 115, 101]⟩)) H _ I h)
    ·refine b5 (R6 _ _ _ _ _) ?_
     refine k7 h (fun _ h => ?_) (fun _ h => ?_)
     ·exact hx1 _ _ (hj1 (decide (x0 = ⟨#[119, 104, 105, 108, 101]⟩)) H _ I h)
     ·refine b5 (R6 _ _ _ _ _) ?_
      refine k7 h (fun _ h => ?_) (fun _ h => ?_)
      ·exact hx1 _ _ (hj1 (decide (x0 = ⟨#[97, 115, 115, 101, 114, 116]⟩)) H _ I h)
      ·refine b5 (R6 _ _ _ _ _) ?_
       refine k7 h (fun _ h => ?_) (fun _ h => ?_)
       ·exact hx1 _ _ (hj1 (decide (x0 = ⟨#[97, 115, 115, 117, 109, 101]⟩)) H _ I h)
       ·refine b5 (R6 _ _ _ _ _) ?_
        refine k7 h (fun _ h => ?_) (fun _ h => ?_)
        ·exact hx1 _ _ (hj1 (decide (x0 = ⟨#[115, 107, 105, 112]⟩)) H _ I h)
        ·refine b5 (R6 _ _ _ _ _) ?_
         refine k7 h (fun _ h => ?_) (fun _ h => ?_)
         ·exact hx1 _ _ (hj1 (decide (x0 = ⟨#[105, 110, 112, 117, 116]⟩)) H _ I h)
         ·refine b5 (R6 _ _ _ _ _) ?_
          refine k7 h (fun _ h => ?_) (fun _ h => ?_)
          ·exact hx1 _ _ (hj1 (decide (x0 = ⟨#[116, 114, 117, 101]⟩)) H _ I h)
          ·refine b5 (R6 _ _ _ _ _) ?_
           exact hx1 _ _ (hj1 (decide (x0 = ⟨#[102, 97, 108, 115, 101]⟩)) H _ I h)
def S3 (H : Hp) (K : Int → Hp → Prop) : Prop :=
 K (-1) H
def S4 (c5z : (List ByteArray)) (a3I : ByteArray) (y1 : Int) (A8 : Int) (H : Hp) (n2 : Int → Hp → Prop) (K : Int → Hp → Prop) : Prop :=
 (A8 < y1 →
 (0 : Int) ≤ A8 ∧ ∃ a : ByteArray, (c5z)[(A8 : Int).toNat]? = some a ∧
 (a3I = a →
 K A8 H) ∧
 (¬ (a3I = a) →
 n2 (IntKind.wrap .i64 (A8 + 1)) H)) ∧
 (¬ (A8 < y1) →
 S3 H K)
def a0k (x0 : (List ByteArray)) (x1 : ByteArray) (H : Hp) (K : Int → Hp → Prop) : Prop :=
 TL (0 : Int) H fun (s : Int) H n2 => S4 x0 x1 (x0.length : Int) s H n2 K
theorem a5B (x0 x1) {H K} (h : a0k x0 x1 H K) : Z8 x0 x1 H K := by
 intro sx0 Fx0 hx0
 refine Ct.of fun w0 w ps0 H0 R E I hR => c0X ?_
 unfold a0k at h
 unfold c3I
 have hj1 : ∀ H w (_ : Inv w0 ps0 H0 H [Fx0] w) (_ : S3 H K), b1E w R E := by
  intro H w I h
  unfold b1E
  intro _
  unfold S3 at h
  exact hR _ H _ _ I ⟨(-1), rfl, rfl, h⟩
 refine v8 fun j1 hx1 => ?_
 refine b5 (b0r Tryz.underlying77 hx0) ?_
 obtain ⟨d, c, j, k⟩ := h
 refine E9 (J := fun n l w => ∃ (s : Int) (H : Hp) , n = c s ∧ l = [(vi s)] ∧ Inv w0 ps0 H0 H [Fx0] w ∧ d s H) ⟨_, 0, H, rfl, rfl, I, j⟩ ?_
 rintro p q w next2 ⟨A8, H, rfl, f, I, m⟩ hn2
 simp only [List.map_cons, List.map_nil, List.cons.injEq, and_true] at f
 have e8 := f
 simp only [e8]
 obtain ⟨n2, hm2, h⟩ : ∃ n2 : Int → Hp → Prop, (∀ s' H', n2 s' H' → d s' H' ∧ c s' < c A8) ∧ S4 x0 x1 (x0.length : Int) A8 H n2 K := ⟨_, fun _ _ h => h, k A8 H (fun s' H' => d s' H' ∧ c s' < c A8) m (fun _ _ a b => ⟨a, b⟩)⟩
 unfold b5w
 unfold S4 at h
 refine b5 pLs ?_
 refine k7 h (fun _ h => ?_) (fun _ h => ?_)
 ·obtain ⟨g, o, e, h⟩ := h
  obtain ⟨r, t, i, u⟩ := hx0.addr e
  refine b5 (b3u i _ _ _ _ g (hx0.lt g e)) (g9 (ld1 (v := (Value.string o)) Tryz.isAgg9 (hx0.atW I i e)) (b5 (R6 _ _ _ _ _) ?_))
  refine k7 h (fun _ h => ?_) (fun _ h => ?_)
  ·exact hR _ H _ _ I ⟨A8, rfl, rfl, h⟩
  ·refine b5 pAd ?_
   exact hn2 _ _ _ (hm2 _ _ h).2 ⟨(IntKind.wrap .i64 (A8 + 1)), H, rfl, rfl, I, (hm2 _ _ h).1⟩
 ·exact hx1 _ _ (hj1 H _ I h)
def X8 (x0 : (List ByteArray)) (x1 : ByteArray) (H : Hp) (K : Bool → Hp → Prop) : Prop :=
 Z8 x0 x1 H (fun a b =>
 K (decide (0 ≤ a)) b)
theorem a4R (x0 x1) {H K} (h : X8 x0 x1 H K) : M0 x0 x1 H K := by
 intro sx0 Fx0 hx0
 refine Ct.of fun w0 w ps0 H0 R E I hR => c0P ?_
 unfold X8 at h
 unfold c3A
 refine g8 Tryz.call161 (h sx0 Fx0 hx0) I ?_
 rintro _ a _ d b _ _ ⟨c, rfl, rfl, h⟩
 refine b5 pGe ?_
 exact hR _ a _ _ b ⟨(decide (0 ≤ c)), rfl, rfl, h⟩
def K5 (d : Int) (e : Int) (f : Int) (g : Bool) (i : Bool) (j : (List ByteArray)) (H : Hp) (K : l7 → Hp → Prop) : Prop :=
 ∀ (a : Sl) (b : Hp), Hle H b → SlH b 1 G0 a j → a.n ≤ a.c →
 K (l7.mk d e f g i a) b
def a2V (x0 : Sl) (H : Hp) (K : l7 → Hp → Prop) : Prop :=
 V8 x0 1 (l7.mk 0 0 0 false false (Sl.mk none 0 0)) [] H (fun d a b c =>
 ((!d) = true →
 K5 a.fnodes a.fdepth a.fe a.fform a.fnamed b c K) ∧
 ((!d) = false →
 (a.fform = true →
 K5 a.fnodes a.fdepth 30 a.fform a.fnamed b c K) ∧
 (a.fform = false →
 (a.fnamed = true →
 K5 a.fnodes a.fdepth 31 a.fform a.fnamed b c K) ∧
 (a.fnamed = false →
 K5 a.fnodes a.fdepth a.fe a.fform a.fnamed b c K))))
theorem a8h (x0) {H K} (h : a2V x0 H K) : a2N x0 H K := by
 refine Ct.of fun w0 w ps0 H0 R E I hR => c2J ?_
 unfold a2V at h
 unfold F74
 refine b5 (b7o ) ?_
 refine a0p I (cs := [(vi 0), (vi 0), (vi 0), (vB false), (vB false), (nS)]) rfl fun d aj y ak => ?_
 refine p8 y Tryz.zeroValue80 (cs := [(Value.pointer none)]) rfl fun c al z am => ?_
 refine g7 z Tryz.sizeOf80 (vs := [(Value.pointer (some ⟨d, 0, none⟩))]) (cs' := [(Value.pointer (some ⟨d, 0, none⟩))]) rfl rfl (nb rfl) rfl rfl fun an aa ao => ?_
 refine p8 aa Tryz.zeroValue169 (cs := [Value.nilFunc]) rfl fun f ap ab aq => ?_
 refine b5 (X9 _ _ _) ?_
 refine g7 ab Tryz.sizeOf169 (vs := [(Value.func (.func 118) #[] #[(Value.pointer (some ⟨c, 0, none⟩)), (Value.pointer (some ⟨f, 0, none⟩))])]) (cs' := [(Value.func (.func 118) #[] #[(Value.pointer (some ⟨c, 0, none⟩)), (Value.pointer (some ⟨f, 0, none⟩))])]) rfl rfl (nb rfl) rfl rfl fun ar u au => ?_
 have hj1 : ∀ (j : Int) (k : Int) (l : Int) (m : Bool) (n : Bool) (s : (List ByteArray)) (i : Sl) (t : Frag) H w (_ : RowL 9 1 G0 i s t) (_ : Inv w0 ps0 H0 H [bx c 80 [(Value.pointer (some ⟨d, 0, none⟩))], bx d 79 [(vi j), (vi k), (vi l), (vB m), (vB n), (vs i)], bx f 169 [(Value.func (.func 118) #[] #[(Value.pointer (some ⟨c, 0, none⟩)), (Value.pointer (some ⟨f, 0, none⟩))])], t] w) (_ : K5 j k l m n s H K), b3G (Value.pointer (some ⟨c, 0, none⟩)) w R E := by
  intro j k l m n s i t H w ac I h
  unfold b3G
  intro _
  unfold K5 at h
  refine g9 (l1 Tryz.isAgg80 I rfl) ?_
  obtain ⟨v, ad, ae, af, ag⟩ := Inv.freezeC (I.bring 3) ac (by decide)
  replace h := h i v ae af ag
  exact hR _ v _ _ (ad.drop.bring 1).drop ⟨(l7.mk j k l m n i), d, rfl, rfl, h⟩
 refine v8 fun j1 hx1 => ?_
 refine g9 (l1 Tryz.isAgg169 u rfl) ?_
 refine a4T (cap := [(Value.pointer (some ⟨c, 0, none⟩)), (Value.pointer (some ⟨f, 0, none⟩))]) Tryz.call118 (h c d f (Sl.mk none 0 0) ([]) (RowL.nil (e := 9) a5K a5L)) ((((u.nil.bring 1).bring 1).bring 3).bring 3) ?_
 rintro _ o _ av b _ _ ⟨aw, a, p, g, q, rfl, rfl, r, h⟩
 refine b5 (U5 _) ?_
 refine p5 h (fun _ h => ?_) (fun _ h => ?_)
 ·exact hx1 _ _ (hj1 a.fnodes a.fdepth a.fe a.fform a.fnamed p g q o _ r ((((b.bring 2).bring 3).bring 3).bring 3) h)
 ·refine g9 (l1 Tryz.isAgg80 b rfl) (b5 (s9 _) (b5 a7V (g9 (l1 Tryz.isAgg4 (b.bring 1) rfl) ?_)))
  refine p5 h (fun _ h => ?_) (fun _ h => ?_)
  ·refine g9 (l1 Tryz.isAgg80 b rfl) (b5 (s9 _) (b5 a4Y ?_))
   refine g7 (b.bring 1) Tryz.sizeOf29 (vs := [(vi 30)]) (cs' := [(vi a.fnodes), (vi a.fdepth), (vi 30), (vB a.fform), (vB a.fnamed), (vs g)]) rfl rfl (nb rfl) rfl rfl fun ax ah ay => ?_
   exact hx1 _ _ (hj1 a.fnodes a.fdepth 30 a.fform a.fnamed p g q o _ r ((((ah.bring 2).bring 3).bring 2).bring 3) h)
  ·refine g9 (l1 Tryz.isAgg80 b rfl) (b5 (s9 _) (b5 a7W (g9 (l1 Tryz.isAgg4 (b.bring 1) rfl) ?_)))
   refine p5 h (fun _ h => ?_) (fun _ h => ?_)
   ·refine g9 (l1 Tryz.isAgg80 b rfl) (b5 (s9 _) (b5 a4Y ?_))
    refine g7 (b.bring 1) Tryz.sizeOf29 (vs := [(vi 31)]) (cs' := [(vi a.fnodes), (vi a.fdepth), (vi 31), (vB a.fform), (vB a.fnamed), (vs g)]) rfl rfl (nb rfl) rfl rfl fun az ai ba => ?_
    exact hx1 _ _ (hj1 a.fnodes a.fdepth 31 a.fform a.fnamed p g q o _ r ((((ai.bring 2).bring 3).bring 2).bring 3) h)
   ·exact hx1 _ _ (hj1 a.fnodes a.fdepth a.fe a.fform a.fnamed p g q o _ r ((((b.bring 2).bring 3).bring 3).bring 3) h)
def a4k (x0 : l9) (H : Hp) (K : l7 → Hp → Prop) : Prop :=
 G1 x0.a3A H (fun d e =>
 y9 x0.a2f e (fun f g =>
 ∀ (a : Sl) (b : Hp), Hle g b → SlH b 1 csl a [d, f] → a.n ≤ a.c →
 C3 a b (fun i j =>
 a2N i j (fun k l =>
 K k l))))
theorem a9I (x0) {H K} (h : a4k x0 H K) : a4g x0 H K := by
 refine Ct.of fun w0 w ps0 H0 R E I hR => c2u ?_
 unfold a4k at h
 unfold F32
 refine a0p I (cs := (p9 x0)) rfl fun z aa b ab => ?_
 refine V7 b fun ac a => ?_
 refine p7 a6s ?_
 refine p7 a2L ?_
 refine C7 (l1 Tryz.isAgg23 a rfl) ?_
 refine C7 (l1 Tryz.isAgg24 a rfl) ?_
 refine g8 Tryz.call76 h a ?_
 rintro _ _ _ ad d _ f ⟨g, rfl, rfl, h⟩
 refine ⟨(f _ a.lt1 (Inv.Y1 (Fi := []) a)), ?_⟩
 refine g8 Tryz.call78 h d ?_
 rintro _ _ _ ae i _ _ ⟨j, rfl, rfl, h⟩
 refine U7 (e := 128) (c := csl) (xs := [g, j]) i (b3p _ _ _ _ _ _) rfl rfl b2T b2U (nb rfl) fun k af ag l m ah => ?_
 obtain ⟨n, o, p, q, r⟩ := Inv.freezeC m l (by decide)
 replace h := h k n p q r
 refine g8 Tryz.call75 h o ?_
 rintro _ _ _ ai s _ _ ⟨aj, rfl, rfl, h⟩
 refine g8 Tryz.call74 h s ?_
 rintro _ t _ ak u _ _ ⟨v, y, rfl, rfl, h⟩
 exact hR _ t _ _ (u.bring 1).drop ⟨v, y, rfl, rfl, h⟩
def T3 [PanQ] (a9X : Int) (t8 : b6) (H : Hp) (K : Hp → Prop) : Prop :=
 (40 < a9X →
 y8 t8 H (fun a b =>
 PanQ.q (Value.iface 98 (Value.agg #[(vi a.fAt.A6), (vi a.fAt.E7), (vi 41)])))) ∧
 (¬ (40 < a9X) →
 K H)
def a2I [PanQ] (x0 : b6) (x1 : Int) (x2 : Bool) (H : Hp) (K : Hp → Prop) : Prop :=
 ((!x2) = true →
 C6 x0 H (fun a =>
 T3 x1 x0 a K)) ∧
 ((!x2) = false →
 T3 x1 x0 H K)
theorem a6b [PanQ] (x0 : b6) (x1 : Int) (x2 : Bool) {H : Hp} {K : Hp → Prop} (h : a2I x0 x1 x2 H K) : B1 x0 x1 x2 H K := by
 intro g0
 refine Ct.ofE fun w0 w ps0 H0 R E I hR hE => c2E ?_
 unfold a2I at h
 unfold F55
 have hj1 : ∀ H w (_ : Inv w0 ps0 H0 H [bx g0 101 (b9 x0)] w) (_ : T3 x1 x0 H K), b3C (Value.pointer (some ⟨g0, 0, none⟩)) (vi x1) w R E := by
  intro H w I h
  unfold b3C
  intro _
  unfold T3 at h
  refine b5 pGt ?_
  refine k7 h (fun _ h => ?_) (fun _ h => ?_)
  ·refine g8 Tryz.call51 (h g0) I ?_
   rintro _ _ _ d a _ _ ⟨e, rfl, rfl, h⟩
   refine b5 a8J (b5 (a8t _ _ _) (b5 (a9K _ _ _) ?_))
   exact a7f (hE _ _ _ _ a ⟨_, rfl, h⟩)
  ·exact hR _ H _ _ I ⟨rfl, rfl, h⟩
 refine v8 fun j1 hx1 => ?_
 refine b5 (U5 _) ?_
 refine p5 h (fun _ h => ?_) (fun _ h => ?_)
 ·refine v7 hE Tryz.call52 (h g0) I ?_
  rintro _ b _ f c _ _ ⟨rfl, rfl, h⟩
  exact hx1 _ _ (hj1 b _ c h)
 ·exact hx1 _ _ (hj1 H _ I h)
def K7 [PanQ] (d : Int) (e : ByteArray) (f : Sl) (g : (List f7)) (i : Sl) (j : Sl) (a5g : b6) (k : b7) (l : g5) (H : Hp) (K : g5 → b6 → Hp → Prop) : Prop :=
 ∀ (a : Sl) (b : Hp), Hle H b → SlH b 4 i6 a g → a.n ≤ a.c →
 K (g5.mk d e f a i j) a5g b
def D4 [PanQ] (f : Int) (g : ByteArray) (i : (List d7)) (j : (List f7)) (k : Sl) (l : Sl) (t8 : b6) (p : b7) (q : g5) (H : Hp) (K : g5 → b6 → Hp → Prop) : Prop :=
 A7 t8 ⟨#[59]⟩ H (fun m o =>
 ∀ (a : Sl) (d : Hp), Hle o d → SlH d 4 f9 a i → a.n ≤ a.c →
 ∀ (b : Sl) (e : Hp), Hle d e → SlH e 4 i6 b j → b.n ≤ b.c →
 K (g5.mk f g a b k l) m e)
def K8 [PanQ] (c7i : Int) (c : Int) (d : ByteArray) (a : (List d7)) (e : (List f7)) (f : Sl) (g : Sl) (a3v : b6) (i : b7) (j : g5) (H : Hp) (K : g5 → b6 → Hp → Prop) : Prop :=
 A7 a3v ⟨#[61]⟩ H (fun k l =>
 M7 k c7i l (fun b m n =>
 (a.length + ([b] : List d7).length) * 57 ≤ 140737488355328 ∧
 D4 c d (a ++ [b]) e f g m i j n K))
def a0Y [PanQ] (x0 : b6) (x1 : Int) (H : Hp) (K : g5 → b6 → Hp → Prop) : Prop :=
 M8 x0 H (fun a b d =>
 (a.g6 = 1 →
 s7 b ⟨#[91]⟩ d (fun g i j =>
 (g = true →
 Q9 i x1 ⟨#[93]⟩ j (fun k r s =>
 (([] : List d7).length + ([k] : List d7).length) * 57 ≤ 140737488355328 ∧
 K8 x1 2 a.B3 [k] [] (Sl.mk none 0 0) (Sl.mk none 0 0) r a (g5.mk 0 ⟨#[]⟩ (Sl.mk none 0 0) (Sl.mk none 0 0) (Sl.mk none 0 0) (Sl.mk none 0 0)) s K)) ∧
 (g = false →
 K8 x1 1 a.B3 [] [] (Sl.mk none 0 0) (Sl.mk none 0 0) i a (g5.mk 0 ⟨#[]⟩ (Sl.mk none 0 0) (Sl.mk none 0 0) (Sl.mk none 0 0) (Sl.mk none 0 0)) j K))) ∧
 (¬ (a.g6 = 1) →
 (a.B3 = ⟨#[105, 102]⟩ →
 K2 b x1 d (fun l t u =>
 R0 t x1 u (fun m v y =>
 s7 v ⟨#[101, 108, 115, 101]⟩ y (fun o p q =>
 (o = true →
 R0 p x1 q (fun z aa ab =>
 K7 3 ⟨#[]⟩ (Sl.mk none 0 0) [l] m z aa a (g5.mk 0 ⟨#[]⟩ (Sl.mk none 0 0) (Sl.mk none 0 0) (Sl.mk none 0 0) (Sl.mk none 0 0)) ab K)) ∧
 (o = false →
 K7 3 ⟨#[]⟩ (Sl.mk none 0 0) [l] m (Sl.mk none 0 0) p a (g5.mk 0 ⟨#[]⟩ (Sl.mk none 0 0) (Sl.mk none 0 0) (Sl.mk none 0 0) (Sl.mk none 0 0)) q K))))) ∧
 (¬ (a.B3 = ⟨#[105, 102]⟩) →
 (a.B3 = ⟨#[119, 104, 105, 108, 101]⟩ →
 K2 b x1 d (fun ac ad ae =>
 R0 ad x1 ae (fun af ag ah =>
 ∀ (e : Sl) (f : Hp), Hle ah f → SlH f 4 i6 e [ac] → e.n ≤ e.c →
 K (g5.mk 4 ⟨#[]⟩ (Sl.mk none 0 0) e af (Sl.mk none 0 0)) ag f))) ∧
 (¬ (a.B3 = ⟨#[119, 104, 105, 108, 101]⟩) →
 (a.B3 = ⟨#[97, 115, 115, 101, 114, 116]⟩ →
 K2 b x1 d (fun ai aj ak =>
 D4 5 ⟨#[]⟩ [] [ai] (Sl.mk none 0 0) (Sl.mk none 0 0) aj a (g5.mk 0 ⟨#[]⟩ (Sl.mk none 0 0) (Sl.mk none 0 0) (Sl.mk none 0 0) (Sl.mk none 0 0)) ak K)) ∧
 (¬ (a.B3 = ⟨#[97, 115, 115, 101, 114, 116]⟩) →
 (a.B3 = ⟨#[97, 115, 115, 117, 109, 101]⟩ →
 K2 b x1 d (fun al am an =>
 D4 6 ⟨#[]⟩ [] [al] (Sl.mk none 0 0) (Sl.mk none 0 0) am a (g5.mk 0 ⟨#[]⟩ (Sl.mk none 0 0) (Sl.mk none 0 0) (Sl.mk none 0 0) (Sl.mk none 0 0)) an K)) ∧
 (¬ (a.B3 = ⟨#[97, 115, 115, 117, 109, 101]⟩) →
 D4 7 ⟨#[]⟩ [] [] (Sl.mk none 0 0) (Sl.mk none 0 0) b a (g5.mk 0 ⟨#[]⟩ (Sl.mk none 0 0) (Sl.mk none 0 0) (Sl.mk none 0 0) (Sl.mk none 0 0)) d K))))))
theorem a6p [PanQ] (x0 : b6) (x1 : Int) {H : Hp} {K : g5 → b6 → Hp → Prop} (h : a0Y x0 x1 H K) : R9 x0 x1 H K := by
 intro g0
 refine Ct.ofE fun w0 w ps0 H0 R E I hR hE => c2G ?_
 unfold a0Y at h
 unfold F57
 refine p8 I Tryz.zeroValue56 (cs := [(vi 0), (eS), (nS), (nS), (nS), (nS)]) rfl fun z fp bw fq => ?_
 refine p8 bw Tryz.zeroValue56 (cs := [(vi 0), (eS), (nS), (nS), (nS), (nS)]) rfl fun aa fs bz ft => ?_
 refine v7 hE Tryz.call104 (h g0) (bz.bring 2) ?_
 rintro _ ca _ fu cb _ _ ⟨b, cc, rfl, rfl, h⟩
 refine p8 cb Tryz.zeroValue103 (cs := [(vi 0), (eS), (vi 0), (vi 0), (vi 0)]) rfl fun an fv cd fw => ?_
 refine g7 cd Tryz.sizeOf103 (vs := (d9 b)) (cs' := (d9 b)) rfl rfl (nb rfl) rfl rfl fun fx d fy => ?_
 have hj1 : ∀ (k : Int) (l : ByteArray) (ao : (List d7)) (ap : (List f7)) (m : Sl) (p : Sl) (t8 : b6) (g : Sl) (aq : Frag) (i : Sl) (ar : Frag) H w (_ : RowL 40 4 f9 g ao aq) (_ : RowL 49 4 i6 i ap ar) (_ : Inv w0 ps0 H0 H [bx aa 56 [(vi k), (Value.string l), (vs g), (vs i), (vs m), (vs p)], bx g0 101 (b9 t8), bx an 103 (d9 b), bx z 56 [(vi (g5.mk 0 ⟨#[]⟩ (Sl.mk none 0 0) (Sl.mk none 0 0) (Sl.mk none 0 0) (Sl.mk none 0 0)).g6), (Value.string (g5.mk 0 ⟨#[]⟩ (Sl.mk none 0 0) (Sl.mk none 0 0) (Sl.mk none 0 0) (Sl.mk none 0 0)).B0), (Value.slice (g5.mk 0 ⟨#[]⟩ (Sl.mk none 0 0) (Sl.mk none 0 0) (Sl.mk none 0 0) (Sl.mk none 0 0)).m5.a (g5.mk 0 ⟨#[]⟩ (Sl.mk none 0 0) (Sl.mk none 0 0) (Sl.mk none 0 0) (Sl.mk none 0 0)).m5.n (g5.mk 0 ⟨#[]⟩ (Sl.mk none 0 0) (Sl.mk none 0 0) (Sl.mk none 0 0) (Sl.mk none 0 0)).m5.c), (Value.slice (g5.mk 0 ⟨#[]⟩ (Sl.mk none 0 0) (Sl.mk none 0 0) (Sl.mk none 0 0) (Sl.mk none 0 0)).A4.a (g5.mk 0 ⟨#[]⟩ (Sl.mk none 0 0) (Sl.mk none 0 0) (Sl.mk none 0 0) (Sl.mk none 0 0)).A4.n (g5.mk 0 ⟨#[]⟩ (Sl.mk none 0 0) (Sl.mk none 0 0) (Sl.mk none 0 0) (Sl.mk none 0 0)).A4.c), (Value.slice (g5.mk 0 ⟨#[]⟩ (Sl.mk none 0 0) (Sl.mk none 0 0) (Sl.mk none 0 0) (Sl.mk none 0 0)).M2.a (g5.mk 0 ⟨#[]⟩ (Sl.mk none 0 0) (Sl.mk none 0 0) (Sl.mk none 0 0) (Sl.mk none 0 0)).M2.n (g5.mk 0 ⟨#[]⟩ (Sl.mk none 0 0) (Sl.mk none 0 0) (Sl.mk none 0 0) (Sl.mk none 0 0)).M2.c), (Value.slice (g5.mk 0 ⟨#[]⟩ (Sl.mk none 0 0) (Sl.mk none 0 0) (Sl.mk none 0 0) (Sl.mk none 0 0)).L5.a (g5.mk 0 ⟨#[]⟩ (Sl.mk none 0 0) (Sl.mk none 0 0) (Sl.mk none 0 0) (Sl.mk none 0 0)).L5.n (g5.mk 0 ⟨#[]⟩ (Sl.mk none 0 0) (Sl.mk none 0 0) (Sl.mk none 0 0) (Sl.mk none 0 0)).L5.c)], aq, ar] w) (_ : D4 k l ao ap m p t8 b (g5.mk 0 ⟨#[]⟩ (Sl.mk none 0 0) (Sl.mk none 0 0) (Sl.mk none 0 0) (Sl.mk none 0 0)) H K), b3D (Value.pointer (some ⟨g0, 0, none⟩)) (Value.pointer (some ⟨z, 0, none⟩)) (Value.pointer (some ⟨aa, 0, none⟩)) w R E := by
  intro k l ao ap m p t8 g aq i ar H w ce cf I h
  unfold b3D
  intro _
  unfold D4 at h
  refine v7 hE Tryz.call103 (h g0) (I.bring 1) ?_
  rintro _ _ _ fz bb _ _ ⟨cg, rfl, rfl, h⟩
  refine g9 (ldA Tryz.isAgg56 Tryz.sizeOf56 rfl ((bb.bring 1).at1 (o := 0) (vs := [(vi k), (Value.string l), (vs g), (vs i), (vs m), (vs p)]) (nb rfl) rfl)) ?_
  refine g7 (bb.bring 3) Tryz.sizeOf56 (vs := [(vi k), (Value.string l), (vs g), (vs i), (vs m), (vs p)]) (cs' := [(vi k), (Value.string l), (vs g), (vs i), (vs m), (vs p)]) rfl rfl (nb rfl) rfl rfl fun ga bc gb => ?_
  refine y2 Tryz.isAgg56 Tryz.sizeOf56 rfl (bc.at1 (o := 0) (vs := [(vi k), (Value.string l), (vs g), (vs i), (vs m), (vs p)]) (nb rfl) rfl) ?_
  obtain ⟨ch, ci, cj, ck, cl⟩ := Inv.freezeC (bc.bring 4) ce (by decide)
  replace h := h g ch cj ck cl
  obtain ⟨bd, cm, cn, co, cp⟩ := Inv.freezeC (ci.bring 4) cf (by decide)
  replace h := h i bd cn co cp
  exact hR _ bd _ _ ((cm.drop.bring 1).drop.bring 1).drop ⟨(g5.mk k l g i m p), cg, rfl, rfl, h⟩
 refine v8 fun j1 hx1 => ?_
 refine b5 a0q (g9 (l1 Tryz.isAgg3 d rfl) (b5 pEq ?_))
 refine k7 h (fun _ h => ?_) (fun _ h => ?_)
 ·refine V7 d fun gc au => ?_
  refine p7 Q5 ?_
  refine p7 a0r ?_
  refine C7 (l1 Tryz.isAgg9 au rfl) ?_
  refine g7 (au.bring 2) Tryz.sizeOf3 (vs := [(vi 1)]) (cs' := [(vi 1), (eS), (nS), (nS), (nS), (nS)]) rfl rfl (nb rfl) rfl rfl fun gd cq cr => ?_
  refine ⟨(cr _ (Inv.c5U (au.bring 2))), ?_⟩
  refine p7 a4Z ?_
  refine g7 cq Tryz.sizeOf9 (vs := [(Value.string b.B3)]) (cs' := [(vi 1), (Value.string b.B3), (nS), (nS), (nS), (nS)]) rfl rfl (nb rfl) rfl rfl fun ge ct gf => ?_
  have hj2 : ∀ (ab : Int) (ac : ByteArray) (ad : (List d7)) (ai : (List f7)) (ae : Sl) (af : Sl) (a3v : b6) (aj : Sl) (av : Frag) (ag : Sl) (ak : Frag) H w (_ : RowL 40 4 f9 aj ad av) (_ : RowL 49 4 i6 ag ai ak) (_ : Inv w0 ps0 H0 H [bx aa 56 [(vi ab), (Value.string ac), (vs aj), (vs ag), (vs ae), (vs af)], bx g0 101 (b9 a3v), bx an 103 (d9 b), bx z 56 [(vi (g5.mk 0 ⟨#[]⟩ (Sl.mk none 0 0) (Sl.mk none 0 0) (Sl.mk none 0 0) (Sl.mk none 0 0)).g6), (Value.string (g5.mk 0 ⟨#[]⟩ (Sl.mk none 0 0) (Sl.mk none 0 0) (Sl.mk none 0 0) (Sl.mk none 0 0)).B0), (Value.slice (g5.mk 0 ⟨#[]⟩ (Sl.mk none 0 0) (Sl.mk none 0 0) (Sl.mk none 0 0) (Sl.mk none 0 0)).m5.a (g5.mk 0 ⟨#[]⟩ (Sl.mk none 0 0) (Sl.mk none 0 0) (Sl.mk none 0 0) (Sl.mk none 0 0)).m5.n (g5.mk 0 ⟨#[]⟩ (Sl.mk none 0 0) (Sl.mk none 0 0) (Sl.mk none 0 0) (Sl.mk none 0 0)).m5.c), (Value.slice (g5.mk 0 ⟨#[]⟩ (Sl.mk none 0 0) (Sl.mk none 0 0) (Sl.mk none 0 0) (Sl.mk none 0 0)).A4.a (g5.mk 0 ⟨#[]⟩ (Sl.mk none 0 0) (Sl.mk none 0 0) (Sl.mk none 0 0) (Sl.mk none 0 0)).A4.n (g5.mk 0 ⟨#[]⟩ (Sl.mk none 0 0) (Sl.mk none 0 0) (Sl.mk none 0 0) (Sl.mk none 0 0)).A4.c), (Value.slice (g5.mk 0 ⟨#[]⟩ (Sl.mk none 0 0) (Sl.mk none 0 0) (Sl.mk none 0 0) (Sl.mk none 0 0)).M2.a (g5.mk 0 ⟨#[]⟩ (Sl.mk none 0 0) (Sl.mk none 0 0) (Sl.mk none 0 0) (Sl.mk none 0 0)).M2.n (g5.mk 0 ⟨#[]⟩ (Sl.mk none 0 0) (Sl.mk none 0 0) (Sl.mk none 0 0) (Sl.mk none 0 0)).M2.c), (Value.slice (g5.mk 0 ⟨#[]⟩ (Sl.mk none 0 0) (Sl.mk none 0 0) (Sl.mk none 0 0) (Sl.mk none 0 0)).L5.a (g5.mk 0 ⟨#[]⟩ (Sl.mk none 0 0) (Sl.mk none 0 0) (Sl.mk none 0 0) (Sl.mk none 0 0)).L5.n (g5.mk 0 ⟨#[]⟩ (Sl.mk none 0 0) (Sl.mk none 0 0) (Sl.mk none 0 0) (Sl.mk none 0 0)).L5.c)], av, ak] w) (_ : K8 x1 ab ac ad ai ae af a3v b (g5.mk 0 ⟨#[]⟩ (Sl.mk none 0 0) (Sl.mk none 0 0) (Sl.mk none 0 0) (Sl.mk none 0 0)) H K), b3E (Value.pointer (some ⟨g0, 0, none⟩)) (vi x1) (Value.pointer (some ⟨z, 0, none⟩)) (Value.pointer (some ⟨aa, 0, none⟩)) w j1 R E := by
   intro ab ac ad ai ae af a3v aj av ag ak H w cu cv I h
   unfold b3E
   intro _
   unfold K8 at h
   refine v7 hE Tryz.call103 (h g0) (I.bring 1) ?_
   rintro _ _ _ gg cw _ _ ⟨cx, rfl, rfl, h⟩
   refine V7 cw fun gh al => ?_
   refine p7 a2g ?_
   refine C7 (l1 Tryz.isAgg38 (al.bring 1) rfl) ?_
   refine v7 hE Tryz.call35 (h g0) al ?_
   rintro _ cy _ gi be _ cz ⟨bf, da, rfl, rfl, h⟩
   refine ⟨(cz _ (al.bring 1).lt1 (Inv.Y1 (Fi := [bx g0 101 (b9 cx)]) ((al.bring 1).bring 1))), ?_⟩
   refine U7 (e := 40) (c := f9) (xs := [bf]) be (a9f _ _ _ _ _ _) rfl rfl M5 M6 (nb rfl) fun gj gk gl db bg dc => ?_
   refine ⟨(dc _ (be.bring 1).lt1), ?_⟩
   obtain ⟨dd, h⟩ := h
   refine b7k (s := aj) (xs := ad) (bg.bring 5) cu (db.srcO ((bg.bring 5).bring 1)) dd fun aw de gm df dg gn => ?_
   refine p7 a2g ?_
   refine g7 ((dg.bring 1).drop.bring 2) Tryz.sizeOf38 (vs := [(vs aw)]) (cs' := [(vi ab), (Value.string ac), (vs aw), (vs ag), (vs ae), (vs af)]) rfl rfl (nb rfl) rfl rfl fun go dh gp => ?_
   exact hx1 _ _ (hj1 ab ac (ad ++ [bf]) ai ae af da aw de ag ak cy _ df cv ((((((dh.bring 5).bring 2).bring 5).bring 5).bring 5).bring 5) h)
  refine v8 fun j2 hx2 => ?_
  refine g8 Tryz.call105 (h g0) (ct.bring 2) ?_
  rintro _ di _ gq bh _ _ ⟨gr, bi, rfl, rfl, h⟩
  refine p5 h (fun _ h => ?_) (fun _ h => ?_)
  ·refine b5 a0r ?_
   refine g7 (bh.bring 1) Tryz.sizeOf3 (vs := [(vi 2)]) (cs' := [(vi 2), (Value.string b.B3), (nS), (nS), (nS), (nS)]) rfl rfl (nb rfl) rfl rfl fun gs dj gt => ?_
   refine V7 dj fun gu am => ?_
   refine p7 a2g ?_
   refine C7 (l1 Tryz.isAgg38 am rfl) ?_
   refine v7 hE Tryz.call106 (h g0) (am.bring 1) ?_
   rintro _ dk _ gv bj _ dl ⟨bk, dm, rfl, rfl, h⟩
   refine ⟨(dl _ am.lt1 (Inv.Y1 (Fi := [bx g0 101 (b9 bi)]) (am.bring 1))), ?_⟩
   refine U7 (e := 40) (c := f9) (xs := [bk]) bj (a9f _ _ _ _ _ _) rfl rfl M5 M6 (nb rfl) fun gw gx gy dn bl dp => ?_
   refine ⟨(dp _ (bj.bring 1).lt1), ?_⟩
   obtain ⟨dq, h⟩ := h
   refine b7k (s := ⟨none, 0, 0⟩) (xs := []) bl.nil (RowL.nil M5 M6) (dn.srcO (bl.nil.bring 1)) dq fun ax dr gz bm ds ha => ?_
   simp only [List.nil_append] at bm
   refine p7 a2g ?_
   refine g7 ((ds.bring 1).drop.bring 2) Tryz.sizeOf38 (vs := [(vs ax)]) (cs' := [(vi 2), (Value.string b.B3), (vs ax), (nS), (nS), (nS)]) rfl rfl (nb rfl) rfl rfl fun hb dt hc => ?_
   exact hx2 _ _ (hj2 2 b.B3 [bk] [] (Sl.mk none 0 0) (Sl.mk none 0 0) dm ax dr (Sl.mk none 0 0) [] dk _ bm (RowL.nil R7 R8) (((((dt.nil.bring 2).bring 5).bring 5).bring 5).bring 5) h)
  ·exact hx2 _ _ (hj2 1 b.B3 [] [] (Sl.mk none 0 0) (Sl.mk none 0 0) bi (Sl.mk none 0 0) [] (Sl.mk none 0 0) [] di _ (RowL.nil M5 M6) (RowL.nil R7 R8) (((((bh.nil.nil.bring 1).bring 5).bring 5).bring 4).bring 5) h)
 ·refine b5 Q5 (g9 (l1 Tryz.isAgg9 d rfl) (b5 (R6 _ _ _ _ _) ?_))
  refine k7 h (fun _ h => ?_) (fun _ h => ?_)
  ·refine v7 hE Tryz.call41 (h g0) (d.bring 1) ?_
   rintro _ _ _ hd du _ _ ⟨bn, he, rfl, rfl, h⟩
   refine U7 (e := 49) (c := i6) (xs := [bn]) du (a7B _ _ _ _ _ _ _ _) rfl rfl R7 R8 (nb rfl) fun f dv hf dw dx hg => ?_
   refine b5 a0r ?_
   refine g7 (dx.bring 3) Tryz.sizeOf3 (vs := [(vi 3)]) (cs' := [(vi 3), (eS), (nS), (nS), (nS), (nS)]) rfl rfl (nb rfl) rfl rfl fun hh dy hi => ?_
   refine b5 a3S ?_
   refine g7 dy Tryz.sizeOf47 (vs := [(vs f)]) (cs' := [(vi 3), (eS), (nS), (vs f), (nS), (nS)]) rfl rfl (nb rfl) rfl rfl fun hj dz hk => ?_
   refine v7 hE Tryz.call107 (h g0) (dz.bring 2) ?_
   rintro _ _ _ hl ea _ _ ⟨ah, hm, rfl, rfl, h⟩
   refine b5 a6t ?_
   refine g7 (ea.bring 1) Tryz.sizeOf24 (vs := [(vs ah)]) (cs' := [(vi 3), (eS), (nS), (vs f), (vs ah), (nS)]) rfl rfl (nb rfl) rfl rfl fun hn eb ho => ?_
   have hj3 : ∀ (q : Int) (r : ByteArray) (t : Sl) (u : Sl) (v : Sl) (a5g : b6) H w (_ : Inv w0 ps0 H0 H [bx aa 56 [(vi q), (Value.string r), (vs t), (vs f), (vs u), (vs v)], bx g0 101 (b9 a5g), bx an 103 (d9 b), bx z 56 [(vi (g5.mk 0 ⟨#[]⟩ (Sl.mk none 0 0) (Sl.mk none 0 0) (Sl.mk none 0 0) (Sl.mk none 0 0)).g6), (Value.string (g5.mk 0 ⟨#[]⟩ (Sl.mk none 0 0) (Sl.mk none 0 0) (Sl.mk none 0 0) (Sl.mk none 0 0)).B0), (Value.slice (g5.mk 0 ⟨#[]⟩ (Sl.mk none 0 0) (Sl.mk none 0 0) (Sl.mk none 0 0) (Sl.mk none 0 0)).m5.a (g5.mk 0 ⟨#[]⟩ (Sl.mk none 0 0) (Sl.mk none 0 0) (Sl.mk none 0 0) (Sl.mk none 0 0)).m5.n (g5.mk 0 ⟨#[]⟩ (Sl.mk none 0 0) (Sl.mk none 0 0) (Sl.mk none 0 0) (Sl.mk none 0 0)).m5.c), (Value.slice (g5.mk 0 ⟨#[]⟩ (Sl.mk none 0 0) (Sl.mk none 0 0) (Sl.mk none 0 0) (Sl.mk none 0 0)).A4.a (g5.mk 0 ⟨#[]⟩ (Sl.mk none 0 0) (Sl.mk none 0 0) (Sl.mk none 0 0) (Sl.mk none 0 0)).A4.n (g5.mk 0 ⟨#[]⟩ (Sl.mk none 0 0) (Sl.mk none 0 0) (Sl.mk none 0 0) (Sl.mk none 0 0)).A4.c), (Value.slice (g5.mk 0 ⟨#[]⟩ (Sl.mk none 0 0) (Sl.mk none 0 0) (Sl.mk none 0 0) (Sl.mk none 0 0)).M2.a (g5.mk 0 ⟨#[]⟩ (Sl.mk none 0 0) (Sl.mk none 0 0) (Sl.mk none 0 0) (Sl.mk none 0 0)).M2.n (g5.mk 0 ⟨#[]⟩ (Sl.mk none 0 0) (Sl.mk none 0 0) (Sl.mk none 0 0) (Sl.mk none 0 0)).M2.c), (Value.slice (g5.mk 0 ⟨#[]⟩ (Sl.mk none 0 0) (Sl.mk none 0 0) (Sl.mk none 0 0) (Sl.mk none 0 0)).L5.a (g5.mk 0 ⟨#[]⟩ (Sl.mk none 0 0) (Sl.mk none 0 0) (Sl.mk none 0 0) (Sl.mk none 0 0)).L5.n (g5.mk 0 ⟨#[]⟩ (Sl.mk none 0 0) (Sl.mk none 0 0) (Sl.mk none 0 0) (Sl.mk none 0 0)).L5.c)], dv] w) (_ : K7 q r t ([bn]) u v a5g b (g5.mk 0 ⟨#[]⟩ (Sl.mk none 0 0) (Sl.mk none 0 0) (Sl.mk none 0 0) (Sl.mk none 0 0)) H K), b3F (Value.pointer (some ⟨z, 0, none⟩)) (Value.pointer (some ⟨aa, 0, none⟩)) w R E := by
    intro q r t u v a5g H w I h
    unfold b3F
    intro _
    unfold K7 at h
    refine g9 (ldA Tryz.isAgg56 Tryz.sizeOf56 rfl (I.at1 (o := 0) (vs := [(vi q), (Value.string r), (vs t), (vs f), (vs u), (vs v)]) (nb rfl) rfl)) ?_
    refine g7 (I.bring 3) Tryz.sizeOf56 (vs := [(vi q), (Value.string r), (vs t), (vs f), (vs u), (vs v)]) (cs' := [(vi q), (Value.string r), (vs t), (vs f), (vs u), (vs v)]) rfl rfl (nb rfl) rfl rfl fun hp bo hq => ?_
    refine y2 Tryz.isAgg56 Tryz.sizeOf56 rfl (bo.at1 (o := 0) (vs := [(vi q), (Value.string r), (vs t), (vs f), (vs u), (vs v)]) (nb rfl) rfl) ?_
    obtain ⟨bp, ec, ed, ee, ef⟩ := Inv.freezeC (bo.bring 4) dw (by decide)
    replace h := h f bp ed ee ef
    exact hR _ bp _ _ (ec.drop.drop.bring 1).drop ⟨(g5.mk q r t f u v), a5g, rfl, rfl, h⟩
   refine v8 fun j3 hx3 => ?_
   refine g8 Tryz.call105 (h g0) (eb.bring 1) ?_
   rintro _ eg _ hr bq _ _ ⟨hs, eh, rfl, rfl, h⟩
   refine p5 h (fun _ h => ?_) (fun _ h => ?_)
   ·refine v7 hE Tryz.call107 (h g0) bq ?_
    rintro _ ei _ ht ej _ _ ⟨ay, ek, rfl, rfl, h⟩
    refine b5 a6u ?_
    refine g7 (ej.bring 1) Tryz.sizeOf24 (vs := [(vs ay)]) (cs' := [(vi 3), (eS), (nS), (vs f), (vs ah), (vs ay)]) rfl rfl (nb rfl) rfl rfl fun hu el hv => ?_
    exact hx3 _ _ (hj3 3 ⟨#[]⟩ (Sl.mk none 0 0) ah ay ek ei _ (((((el.bring 2).bring 4).bring 4).bring 4).bring 4) h)
   ·exact hx3 _ _ (hj3 3 ⟨#[]⟩ (Sl.mk none 0 0) ah (Sl.mk none 0 0) eh eg _ (((((bq.bring 2).bring 4).bring 4).bring 3).bring 4) h)
  ·refine b5 Q5 (g9 (l1 Tryz.isAgg9 d rfl) (b5 (R6 _ _ _ _ _) ?_))
   refine k7 h (fun _ h => ?_) (fun _ h => ?_)
   ·refine v7 hE Tryz.call41 (h g0) (d.bring 1) ?_
    rintro _ _ _ hw em _ _ ⟨en, hx, rfl, rfl, h⟩
    refine U7 (e := 49) (c := i6) (xs := [en]) em (a7B _ _ _ _ _ _ _ _) rfl rfl R7 R8 (nb rfl) fun j hy hz eo ep ia => ?_
    refine b5 a0r ?_
    refine g7 (ep.bring 3) Tryz.sizeOf3 (vs := [(vi 4)]) (cs' := [(vi 4), (eS), (nS), (nS), (nS), (nS)]) rfl rfl (nb rfl) rfl rfl fun ib eq ic => ?_
    refine b5 a3S ?_
    refine g7 eq Tryz.sizeOf47 (vs := [(vs j)]) (cs' := [(vi 4), (eS), (nS), (vs j), (nS), (nS)]) rfl rfl (nb rfl) rfl rfl fun id er ie => ?_
    refine v7 hE Tryz.call107 (h g0) (er.bring 2) ?_
    rintro _ _ _ ig es _ _ ⟨y, et, rfl, rfl, h⟩
    refine b5 a6t ?_
    refine g7 (es.bring 1) Tryz.sizeOf24 (vs := [(vs y)]) (cs' := [(vi 4), (eS), (nS), (vs j), (vs y), (nS)]) rfl rfl (nb rfl) rfl rfl fun ih br ii => ?_
    refine g9 (ldA Tryz.isAgg56 Tryz.sizeOf56 rfl (br.at1 (o := 0) (vs := [(vi 4), (eS), (nS), (vs j), (vs y), (nS)]) (nb rfl) rfl)) ?_
    refine g7 (br.bring 4) Tryz.sizeOf56 (vs := [(vi 4), (eS), (nS), (vs j), (vs y), (nS)]) (cs' := [(vi 4), (eS), (nS), (vs j), (vs y), (nS)]) rfl rfl (nb rfl) rfl rfl fun ij bs ik => ?_
    refine y2 Tryz.isAgg56 Tryz.sizeOf56 rfl (bs.at1 (o := 0) (vs := [(vi 4), (eS), (nS), (vs j), (vs y), (nS)]) (nb rfl) rfl) ?_
    obtain ⟨bt, eu, ev, ew, ex⟩ := Inv.freezeC (bs.bring 3) eo (by decide)
    replace h := h j bt ev ew ex
    exact hR _ bt _ _ (eu.drop.drop.bring 1).drop ⟨(g5.mk 4 ⟨#[]⟩ (Sl.mk none 0 0) j y (Sl.mk none 0 0)), et, rfl, rfl, h⟩
   ·refine b5 Q5 (g9 (l1 Tryz.isAgg9 d rfl) (b5 (R6 _ _ _ _ _) ?_))
    refine k7 h (fun _ h => ?_) (fun _ h => ?_)
    ·refine v7 hE Tryz.call41 (h g0) (d.bring 1) ?_
     rintro _ ey _ il ez _ _ ⟨bu, fa, rfl, rfl, h⟩
     refine U7 (e := 49) (c := i6) (xs := [bu]) ez (a7B _ _ _ _ _ _ _ _) rfl rfl R7 R8 (nb rfl) fun az fb im fc fd io => ?_
     refine b5 a0r ?_
     refine g7 (fd.bring 3) Tryz.sizeOf3 (vs := [(vi 5)]) (cs' := [(vi 5), (eS), (nS), (nS), (nS), (nS)]) rfl rfl (nb rfl) rfl rfl fun ip fe iq => ?_
     refine b5 a3S ?_
     refine g7 fe Tryz.sizeOf47 (vs := [(vs az)]) (cs' := [(vi 5), (eS), (nS), (vs az), (nS), (nS)]) rfl rfl (nb rfl) rfl rfl fun ir ff it => ?_
     exact hx1 _ _ (hj1 5 ⟨#[]⟩ [] [bu] (Sl.mk none 0 0) (Sl.mk none 0 0) fa (Sl.mk none 0 0) [] az fb ey _ (RowL.nil M5 M6) fc ((((((ff.nil.bring 2).bring 1).bring 5).bring 5).bring 5).bring 5) h)
    ·refine b5 Q5 (g9 (l1 Tryz.isAgg9 d rfl) (b5 (R6 _ _ _ _ _) ?_))
     refine k7 h (fun _ h => ?_) (fun _ h => ?_)
     ·refine v7 hE Tryz.call41 (h g0) (d.bring 1) ?_
      rintro _ fg _ iu fh _ _ ⟨bv, fi, rfl, rfl, h⟩
      refine U7 (e := 49) (c := i6) (xs := [bv]) fh (a7B _ _ _ _ _ _ _ _) rfl rfl R7 R8 (nb rfl) fun ba fj iv fk fl iw => ?_
      refine b5 a0r ?_
      refine g7 (fl.bring 3) Tryz.sizeOf3 (vs := [(vi 6)]) (cs' := [(vi 6), (eS), (nS), (nS), (nS), (nS)]) rfl rfl (nb rfl) rfl rfl fun ix fm iy => ?_
      refine b5 a3S ?_
      refine g7 fm Tryz.sizeOf47 (vs := [(vs ba)]) (cs' := [(vi 6), (eS), (nS), (vs ba), (nS), (nS)]) rfl rfl (nb rfl) rfl rfl fun iz fn ja => ?_
      exact hx1 _ _ (hj1 6 ⟨#[]⟩ [] [bv] (Sl.mk none 0 0) (Sl.mk none 0 0) fi (Sl.mk none 0 0) [] ba fj fg _ (RowL.nil M5 M6) fk ((((((fn.nil.bring 2).bring 1).bring 5).bring 5).bring 5).bring 5) h)
     ·refine b5 a0r ?_
      refine g7 (d.bring 2) Tryz.sizeOf3 (vs := [(vi 7)]) (cs' := [(vi 7), (eS), (nS), (nS), (nS), (nS)]) rfl rfl (nb rfl) rfl rfl fun jb fo jc => ?_
      exact hx1 _ _ (hj1 7 ⟨#[]⟩ [] [] (Sl.mk none 0 0) (Sl.mk none 0 0) cc (Sl.mk none 0 0) [] (Sl.mk none 0 0) [] ca _ (RowL.nil M5 M6) (RowL.nil R7 R8) (((((fo.nil.nil.bring 1).bring 5).bring 4).bring 5).bring 5) h)
def W0 [PanQ] (b : J0) (t8 : b6) (H : Hp) (K : Int → b6 → Hp → Prop) : Prop :=
 C6 t8 H (fun a =>
 K 0 t8 a)
def Q6 [PanQ] (y1 : J0) (c : J0) (A8 : Int) (m9 : b6) (H : Hp) (n2 : (Int × b6) → Hp → Prop) (K : Int → b6 → Hp → Prop) : Prop :=
 (A8 < 7 →
 (0 : Int) ≤ A8 ∧ (A8 : Int) < 7 ∧
 TG ((decide (0 < A8)) = true) (fun k_ => s7 m9 (([y1.f0, y1.f1, y1.f2, y1.f3, y1.f4, y1.f5, y1.f6] : List ByteArray).getD (A8 : Int).toNat ⟨#[]⟩) H fun d e H_ => k_ (d, e) H_) (false, m9) H (fun (a : Bool × b6) (b : Hp) =>
 (((decide (0 < A8)) && a.1) = true →
 K A8 a.2 b) ∧
 (((decide (0 < A8)) && a.1) = false →
 n2 ((IntKind.wrap .i64 (A8 + 1)), a.2) b))) ∧
 (¬ (A8 < 7) →
 W0 c m9 H K)
def Y7 [PanQ] (x0 : b6) (H : Hp) (K : Int → b6 → Hp → Prop) : Prop :=
 TL ((0, x0) : Int × b6) H fun (s : Int × b6) H n2 => Q6 (J0.mk ⟨#[]⟩ ⟨#[60]⟩ ⟨#[60, 61]⟩ ⟨#[61, 61]⟩ ⟨#[33, 61]⟩ ⟨#[62]⟩ ⟨#[62, 61]⟩) (J0.mk ⟨#[]⟩ ⟨#[60]⟩ ⟨#[60, 61]⟩ ⟨#[61, 61]⟩ ⟨#[33, 61]⟩ ⟨#[62]⟩ ⟨#[62, 61]⟩) s.1 s.2 H n2 K
theorem a5h [PanQ] (x0 : b6) {H : Hp} {K : Int → b6 → Hp → Prop} (h : Y7 x0 H K) : Y5 x0 H K := by
 intro g0
 refine Ct.ofE fun w0 w ps0 H0 R E I hR hE => c0C ?_
 unfold Y7 at h
 unfold c3n
 refine b5 (a6K _ _ _ _ _ _ _) ?_
 refine p8 I Tryz.zeroValue195 (cs := [(eS), (eS), (eS), (eS), (eS), (eS), (eS)]) rfl fun m ah z ai => ?_
 refine g7 z Tryz.sizeOf195 (vs := [(eS), (Value.string ⟨#[60]⟩), (Value.string ⟨#[60, 61]⟩), (Value.string ⟨#[61, 61]⟩), (Value.string ⟨#[33, 61]⟩), (Value.string ⟨#[62]⟩), (Value.string ⟨#[62, 61]⟩)]) (cs' := [(eS), (Value.string ⟨#[60]⟩), (Value.string ⟨#[60, 61]⟩), (Value.string ⟨#[61, 61]⟩), (Value.string ⟨#[33, 61]⟩), (Value.string ⟨#[62]⟩), (Value.string ⟨#[62, 61]⟩)]) rfl rfl (nb rfl) rfl rfl fun aj r ak => ?_
 have hj1 : ∀ (t8 : b6) H w (_ : Inv w0 ps0 H0 H [bx m 195 [(Value.string (J0.mk ⟨#[]⟩ ⟨#[60]⟩ ⟨#[60, 61]⟩ ⟨#[61, 61]⟩ ⟨#[33, 61]⟩ ⟨#[62]⟩ ⟨#[62, 61]⟩).f0), (Value.string (J0.mk ⟨#[]⟩ ⟨#[60]⟩ ⟨#[60, 61]⟩ ⟨#[61, 61]⟩ ⟨#[33, 61]⟩ ⟨#[62]⟩ ⟨#[62, 61]⟩).f1), (Value.string (J0.mk ⟨#[]⟩ ⟨#[60]⟩ ⟨#[60, 61]⟩ ⟨#[61, 61]⟩ ⟨#[33, 61]⟩ ⟨#[62]⟩ ⟨#[62, 61]⟩).f2), (Value.string (J0.mk ⟨#[]⟩ ⟨#[60]⟩ ⟨#[60, 61]⟩ ⟨#[61, 61]⟩ ⟨#[33, 61]⟩ ⟨#[62]⟩ ⟨#[62, 61]⟩).f3), (Value.string (J0.mk ⟨#[]⟩ ⟨#[60]⟩ ⟨#[60, 61]⟩ ⟨#[61, 61]⟩ ⟨#[33, 61]⟩ ⟨#[62]⟩ ⟨#[62, 61]⟩).f4), (Value.string (J0.mk ⟨#[]⟩ ⟨#[60]⟩ ⟨#[60, 61]⟩ ⟨#[61, 61]⟩ ⟨#[33, 61]⟩ ⟨#[62]⟩ ⟨#[62, 61]⟩).f5), (Value.string (J0.mk ⟨#[]⟩ ⟨#[60]⟩ ⟨#[60, 61]⟩ ⟨#[61, 61]⟩ ⟨#[33, 61]⟩ ⟨#[62]⟩ ⟨#[62, 61]⟩).f6)], bx g0 101 (b9 t8)] w) (_ : W0 (J0.mk ⟨#[]⟩ ⟨#[60]⟩ ⟨#[60, 61]⟩ ⟨#[61, 61]⟩ ⟨#[33, 61]⟩ ⟨#[62]⟩ ⟨#[62, 61]⟩) t8 H K), b1v (Value.pointer (some ⟨g0, 0, none⟩)) w R E := by
  intro t8 H w I h
  unfold b1v
  intro _
  unfold W0 at h
  refine v7 hE Tryz.call52 (h g0) (I.bring 1) ?_
  rintro _ aa _ al ab _ _ ⟨rfl, rfl, h⟩
  exact hR _ aa _ _ (ab.bring 1).drop ⟨0, t8, rfl, rfl, h⟩
 refine v8 fun j1 hx1 => ?_
 refine g9 (ldA Tryz.isAgg195 Tryz.sizeOf195 rfl (r.at1 (o := 0) (vs := [(eS), (Value.string ⟨#[60]⟩), (Value.string ⟨#[60, 61]⟩), (Value.string ⟨#[61, 61]⟩), (Value.string ⟨#[33, 61]⟩), (Value.string ⟨#[62]⟩), (Value.string ⟨#[62, 61]⟩)]) (nb rfl) rfl)) ?_
 obtain ⟨p, g, ac, ad⟩ := h
 refine E9 (J := fun n l w => ∃ (s : Int × b6) (H : Hp) , n = g s ∧ l = (match s with | (A8, m9) => [(vi A8)]) ∧ (match s with | (A8, m9) => Inv w0 ps0 H0 H [bx m 195 [(Value.string (J0.mk ⟨#[]⟩ ⟨#[60]⟩ ⟨#[60, 61]⟩ ⟨#[61, 61]⟩ ⟨#[33, 61]⟩ ⟨#[62]⟩ ⟨#[62, 61]⟩).f0), (Value.string (J0.mk ⟨#[]⟩ ⟨#[60]⟩ ⟨#[60, 61]⟩ ⟨#[61, 61]⟩ ⟨#[33, 61]⟩ ⟨#[62]⟩ ⟨#[62, 61]⟩).f1), (Value.string (J0.mk ⟨#[]⟩ ⟨#[60]⟩ ⟨#[60, 61]⟩ ⟨#[61, 61]⟩ ⟨#[33, 61]⟩ ⟨#[62]⟩ ⟨#[62, 61]⟩).f2), (Value.string (J0.mk ⟨#[]⟩ ⟨#[60]⟩ ⟨#[60, 61]⟩ ⟨#[61, 61]⟩ ⟨#[33, 61]⟩ ⟨#[62]⟩ ⟨#[62, 61]⟩).f3), (Value.string (J0.mk ⟨#[]⟩ ⟨#[60]⟩ ⟨#[60, 61]⟩ ⟨#[61, 61]⟩ ⟨#[33, 61]⟩ ⟨#[62]⟩ ⟨#[62, 61]⟩).f4), (Value.string (J0.mk ⟨#[]⟩ ⟨#[60]⟩ ⟨#[60, 61]⟩ ⟨#[61, 61]⟩ ⟨#[33, 61]⟩ ⟨#[62]⟩ ⟨#[62, 61]⟩).f5), (Value.string (J0.mk ⟨#[]⟩ ⟨#[60]⟩ ⟨#[60, 61]⟩ ⟨#[61, 61]⟩ ⟨#[33, 61]⟩ ⟨#[62]⟩ ⟨#[62, 61]⟩).f6)], bx g0 101 (b9 m9)] w) ∧ p s H) ⟨_, (0, x0), H, rfl, rfl, ((r.bring 1).bring 1), ac⟩ ?_
 rintro am an w next2 ⟨⟨A8, m9⟩, H, rfl, q, I, ae⟩ hn2
 dsimp only at q I
 simp only [List.map_cons, List.map_nil, List.cons.injEq, and_true] at q
 have e8 := q
 simp only [e8]
 obtain ⟨n2, hm2, h⟩ : ∃ n2 : (Int × b6) → Hp → Prop, (∀ s' H', n2 s' H' → p s' H' ∧ g s' < g (A8, m9)) ∧ Q6 (J0.mk ⟨#[]⟩ ⟨#[60]⟩ ⟨#[60, 61]⟩ ⟨#[61, 61]⟩ ⟨#[33, 61]⟩ ⟨#[62]⟩ ⟨#[62, 61]⟩) (J0.mk ⟨#[]⟩ ⟨#[60]⟩ ⟨#[60, 61]⟩ ⟨#[61, 61]⟩ ⟨#[33, 61]⟩ ⟨#[62]⟩ ⟨#[62, 61]⟩) A8 m9 H n2 K := ⟨_, fun _ _ h => h, ad (A8, m9) H (fun s' H' => p s' H' ∧ g s' < g (A8, m9)) ae (fun _ _ a b => ⟨a, b⟩)⟩
 unfold b5r
 unfold Q6 at h
 refine b5 pLs ?_
 refine k7 h (fun _ h => ?_) (fun _ h => ?_)
 ·obtain ⟨af, ag, h⟩ := h
  refine b5 (b6r _ _ _ _ _ _ _ _ _ af ag) (b5 pGt ?_)
  simp only [D2]
  refine N6 (D := fun t j => ∃ (f : Bool) (d : b6) (c : Hp) , t = (gv (decide (0 < A8)) true (vB f)) ∧ (Inv w0 ps0 H0 c [bx g0 101 (b9 d), bx m 195 [(Value.string (J0.mk ⟨#[]⟩ ⟨#[60]⟩ ⟨#[60, 61]⟩ ⟨#[61, 61]⟩ ⟨#[33, 61]⟩ ⟨#[62]⟩ ⟨#[62, 61]⟩).f0), (Value.string (J0.mk ⟨#[]⟩ ⟨#[60]⟩ ⟨#[60, 61]⟩ ⟨#[61, 61]⟩ ⟨#[33, 61]⟩ ⟨#[62]⟩ ⟨#[62, 61]⟩).f1), (Value.string (J0.mk ⟨#[]⟩ ⟨#[60]⟩ ⟨#[60, 61]⟩ ⟨#[61, 61]⟩ ⟨#[33, 61]⟩ ⟨#[62]⟩ ⟨#[62, 61]⟩).f2), (Value.string (J0.mk ⟨#[]⟩ ⟨#[60]⟩ ⟨#[60, 61]⟩ ⟨#[61, 61]⟩ ⟨#[33, 61]⟩ ⟨#[62]⟩ ⟨#[62, 61]⟩).f3), (Value.string (J0.mk ⟨#[]⟩ ⟨#[60]⟩ ⟨#[60, 61]⟩ ⟨#[61, 61]⟩ ⟨#[33, 61]⟩ ⟨#[62]⟩ ⟨#[62, 61]⟩).f4), (Value.string (J0.mk ⟨#[]⟩ ⟨#[60]⟩ ⟨#[60, 61]⟩ ⟨#[61, 61]⟩ ⟨#[33, 61]⟩ ⟨#[62]⟩ ⟨#[62, 61]⟩).f5), (Value.string (J0.mk ⟨#[]⟩ ⟨#[60]⟩ ⟨#[60, 61]⟩ ⟨#[61, 61]⟩ ⟨#[33, 61]⟩ ⟨#[62]⟩ ⟨#[62, 61]⟩).f6)]] j) ∧ (∀ i, i < w.heap.size → ¬ inF [bx g0 101 (b9 m9)] i → j.heap[i]? = w.heap[i]?) ∧ Hle H c ∧ ((((decide (0 < A8)) && f) = true →
 K A8 d c) ∧
 (((decide (0 < A8)) && f) = false →
 n2 ((IntKind.wrap .i64 (A8 + 1)), d) c))) (fun e => ?_) (fun e => ?_) ?_
  ·replace h := h.1 e
   have u := e
   simp only [o9 u]
   refine g8 Tryz.call105 (h g0) (I.bring 1) ?_
   rintro _ c _ j k v y ⟨f, d, rfl, rfl, h⟩
   exact ⟨f, d, c, by rfl, k, y, v, h⟩
  ·exact ⟨false, m9, H, by rw [W9 e], (I.bring 1), fun _ _ _ => rfl, Hle.refl _, h.2 e⟩
  ·clear h
   rintro t j ⟨f, d, c, rfl, k, y, v, h⟩
   refine b5 (F6 _ _) ?_
   refine p5 h (fun _ h => ?_) (fun _ h => ?_)
   ·exact hR _ c _ _ (k.bring 1).drop ⟨A8, d, rfl, rfl, h⟩
   ·refine b5 pAd ?_
    exact hn2 _ _ _ (hm2 _ _ h).2 ⟨((IntKind.wrap .i64 (A8 + 1)), d), c, rfl, rfl, (k.bring 1), (hm2 _ _ h).1⟩
 ·exact hx1 _ _ (hj1 m9 H _ ((I.bring 1).bring 1) h)
def O8 [PanQ] (a9X : Int) (t8 : b6) (o : d7) (H : Hp) (K : d7 → b6 → Hp → Prop) : Prop :=
 M8 t8 H (fun a e f =>
 (a.g6 = 2 →
 K (d7.mk 1 a.T4 ⟨#[]⟩ (Sl.mk none 0 0)) e f) ∧
 (¬ (a.g6 = 2) →
 s7 e ⟨#[91]⟩ f (fun g i j =>
 ((!g) = true →
 K (d7.mk 2 0 a.B3 (Sl.mk none 0 0)) i j) ∧
 ((!g) = false →
 Q9 i a9X ⟨#[93]⟩ j (fun k l m =>
 ∀ (b : Sl) (d : Hp), Hle m d → SlH d 4 f9 b [k] → b.n ≤ b.c →
 K (d7.mk 4 0 a.B3 b) l d)))))
def a0Z [PanQ] (x0 : b6) (x1 : Int) (H : Hp) (K : d7 → b6 → Hp → Prop) : Prop :=
 E1 x0 H (fun e f =>
 ((!e) = true →
 C6 x0 f (fun q =>
 O8 x1 x0 (d7.mk 0 0 ⟨#[]⟩ (Sl.mk none 0 0)) q K)) ∧
 ((!e) = false →
 s7 x0 ⟨#[45]⟩ f (fun g a i =>
 (g = true →
 E1 a i (fun r s =>
 B1 a (IntKind.wrap .i64 (x1 + 1)) r s (fun t =>
 M9 a (IntKind.wrap .i64 (x1 + 1)) t (fun u v y =>
 ∀ (b : Sl) (d : Hp), Hle y d → SlH d 4 f9 b [u] → b.n ≤ b.c →
 K (d7.mk 5 0 ⟨#[]⟩ b) v d)))) ∧
 (g = false →
 s7 a ⟨#[40]⟩ i (fun j k l =>
 (j = true →
 Q9 k x1 ⟨#[41]⟩ l (fun z aa ab =>
 K z aa ab)) ∧
 (j = false →
 s7 k ⟨#[105, 110, 112, 117, 116]⟩ l (fun m o p =>
 (m = true →
 K (d7.mk 3 0 ⟨#[]⟩ (Sl.mk none 0 0)) o p) ∧
 (m = false →
 O8 x1 o (d7.mk 0 0 ⟨#[]⟩ (Sl.mk none 0 0)) p K))))))))
theorem a6q [PanQ] (x0 : b6) (x1 : Int) {H : Hp} {K : d7 → b6 → Hp → Prop} (h : a0Z x0 x1 H K) : M9 x0 x1 H K := by
 intro g0
 refine Ct.ofE fun w0 w ps0 H0 R E I hR hE => c0z ?_
 unfold a0Z at h
 unfold c3k
 refine p8 I Tryz.zeroValue40 (cs := [(vi 0), (vi 0), (eS), (nS)]) rfl fun l bo ag bp => ?_
 have hj1 : ∀ (t8 : b6) H w (_ : Inv w0 ps0 H0 H [bx g0 101 (b9 t8), bx l 40 [(vi (d7.mk 0 0 ⟨#[]⟩ (Sl.mk none 0 0)).g6), (vi (d7.mk 0 0 ⟨#[]⟩ (Sl.mk none 0 0)).T4), (Value.string (d7.mk 0 0 ⟨#[]⟩ (Sl.mk none 0 0)).B0), (Value.slice (d7.mk 0 0 ⟨#[]⟩ (Sl.mk none 0 0)).P0.a (d7.mk 0 0 ⟨#[]⟩ (Sl.mk none 0 0)).P0.n (d7.mk 0 0 ⟨#[]⟩ (Sl.mk none 0 0)).P0.c)]] w) (_ : O8 x1 t8 (d7.mk 0 0 ⟨#[]⟩ (Sl.mk none 0 0)) H K), b1u (Value.pointer (some ⟨g0, 0, none⟩)) (vi x1) (Value.pointer (some ⟨l, 0, none⟩)) w R E := by
  intro t8 H w I h
  unfold b1u
  intro _
  unfold O8 at h
  refine v7 hE Tryz.call104 (h g0) I ?_
  rintro _ ah _ bq ai _ _ ⟨b, aj, rfl, rfl, h⟩
  refine p8 ai Tryz.zeroValue103 (cs := [(vi 0), (eS), (vi 0), (vi 0), (vi 0)]) rfl fun br bs ak bt => ?_
  refine g7 ak Tryz.sizeOf103 (vs := (d9 b)) (cs' := (d9 b)) rfl rfl (nb rfl) rfl rfl fun bu g bv => ?_
  refine b5 a0q (g9 (l1 Tryz.isAgg3 g rfl) (b5 pEq ?_))
  refine k7 h (fun _ h => ?_) (fun _ h => ?_)
  ·refine b5 a5J (g9 (l1 Tryz.isAgg2 g rfl) (b5 (b2L _ _) ?_))
   refine g7 (g.bring 2) Tryz.sizeOf40 (vs := [(vi 1), (vi b.T4), (eS), (nS)]) (cs' := [(vi 1), (vi b.T4), (eS), (nS)]) rfl rfl (nb rfl) rfl rfl fun bw m bz => ?_
   refine y2 Tryz.isAgg40 Tryz.sizeOf40 rfl (m.at1 (o := 0) (vs := [(vi 1), (vi b.T4), (eS), (nS)]) (nb rfl) rfl) ?_
   exact hR _ ah _ _ m.drop.drop ⟨(d7.mk 1 b.T4 ⟨#[]⟩ (Sl.mk none 0 0)), aj, rfl, rfl, h⟩
  ·refine g8 Tryz.call105 (h g0) (g.bring 1) ?_
   rintro _ al _ ca k _ _ ⟨cb, p, rfl, rfl, h⟩
   refine b5 (U5 _) ?_
   refine p5 h (fun _ h => ?_) (fun _ h => ?_)
   ·refine b5 Q5 (g9 (l1 Tryz.isAgg9 (k.bring 1) rfl) (b5 (b2M _ _) ?_))
    refine g7 (k.bring 2) Tryz.sizeOf40 (vs := [(vi 2), (vi 0), (Value.string b.B3), (nS)]) (cs' := [(vi 2), (vi 0), (Value.string b.B3), (nS)]) rfl rfl (nb rfl) rfl rfl fun cc q cd => ?_
    refine y2 Tryz.isAgg40 Tryz.sizeOf40 rfl (q.at1 (o := 0) (vs := [(vi 2), (vi 0), (Value.string b.B3), (nS)]) (nb rfl) rfl) ?_
    exact hR _ al _ _ (q.drop.bring 1).drop ⟨(d7.mk 2 0 b.B3 (Sl.mk none 0 0)), p, rfl, rfl, h⟩
   ·refine V7 k fun ce i => ?_
    refine p7 Q5 ?_
    refine C7 (l1 Tryz.isAgg9 (i.bring 1) rfl) ?_
    refine v7 hE Tryz.call106 (h g0) i ?_
    rintro _ _ _ cf r _ am ⟨an, ao, rfl, rfl, h⟩
    refine ⟨(am _ (i.bring 1).lt1 (Inv.Y1 (Fi := [bx g0 101 (b9 p)]) ((i.bring 1).bring 1))), ?_⟩
    refine U7 (e := 40) (c := f9) (xs := [an]) r (a9f _ _ _ _ _ _) rfl rfl M5 M6 (nb rfl) fun d cg ch ap aq ar => ?_
    refine ⟨(ar _ (r.bring 1).lt1), ?_⟩
    refine p7 (b0y _ _ _ _ _) ?_
    refine g7 (aq.bring 3) Tryz.sizeOf40 (vs := [(vi 4), (vi 0), (Value.string b.B3), (vs d)]) (cs' := [(vi 4), (vi 0), (Value.string b.B3), (vs d)]) rfl rfl (nb rfl) rfl rfl fun ci s cj => ?_
    refine y2 Tryz.isAgg40 Tryz.sizeOf40 rfl (s.at1 (o := 0) (vs := [(vi 4), (vi 0), (Value.string b.B3), (vs d)]) (nb rfl) rfl) ?_
    obtain ⟨t, au, av, aw, ax⟩ := Inv.freezeC (s.bring 1) ap (by decide)
    replace h := h d t av aw ax
    exact hR _ t _ _ (au.drop.bring 1).drop ⟨(d7.mk 4 0 b.B3 d), ao, rfl, rfl, h⟩
 refine v8 fun j1 hx1 => ?_
 refine g8 Tryz.call141 (h g0) (ag.bring 1) ?_
 rintro _ _ _ ck u _ _ ⟨cl, rfl, rfl, h⟩
 refine b5 (U5 _) ?_
 refine p5 h (fun _ h => ?_) (fun _ h => ?_)
 ·refine v7 hE Tryz.call52 (h g0) u ?_
  rintro _ ay _ cm az _ _ ⟨rfl, rfl, h⟩
  exact hx1 _ _ (hj1 x0 ay _ ((az.bring 1).bring 1) h)
 ·refine g8 Tryz.call105 (h g0) u ?_
  rintro _ _ _ cn v _ _ ⟨co, cp, rfl, rfl, h⟩
  refine p5 h (fun _ h => ?_) (fun _ h => ?_)
  ·refine b5 pAd ?_
   refine g8 Tryz.call141 (h g0) v ?_
   rintro _ _ _ cq ba _ _ ⟨cr, rfl, rfl, h⟩
   refine v7 hE Tryz.call55 (h g0) ba ?_
   rintro _ _ _ ct bb _ _ ⟨rfl, rfl, h⟩
   refine b5 pAd ?_
   refine v7 hE Tryz.call122 (h g0) bb ?_
   rintro _ _ _ cu bc _ _ ⟨bd, be, rfl, rfl, h⟩
   refine U7 (e := 40) (c := f9) (xs := [bd]) bc (a9f _ _ _ _ _ _) rfl rfl M5 M6 (nb rfl) fun f cv cw bf bg cx => ?_
   refine b5 (a4t _ _ _ _) ?_
   refine g7 (bg.bring 2) Tryz.sizeOf40 (vs := [(vi 5), (vi 0), (eS), (vs f)]) (cs' := [(vi 5), (vi 0), (eS), (vs f)]) rfl rfl (nb rfl) rfl rfl fun cy y cz => ?_
   refine y2 Tryz.isAgg40 Tryz.sizeOf40 rfl (y.at1 (o := 0) (vs := [(vi 5), (vi 0), (eS), (vs f)]) (nb rfl) rfl) ?_
   obtain ⟨z, bh, bi, bj, bk⟩ := Inv.freezeC (y.bring 1) bf (by decide)
   replace h := h f z bi bj bk
   exact hR _ z _ _ bh.drop ⟨(d7.mk 5 0 ⟨#[]⟩ f), be, rfl, rfl, h⟩
  ·refine g8 Tryz.call105 (h g0) v ?_
   rintro _ _ _ da aa _ _ ⟨db, dc, rfl, rfl, h⟩
   refine p5 h (fun _ h => ?_) (fun _ h => ?_)
   ·refine v7 hE Tryz.call106 (h g0) aa ?_
    rintro _ bl _ dd bm _ _ ⟨j, bn, rfl, rfl, h⟩
    refine g7 (bm.bring 1) Tryz.sizeOf40 (vs := (f9 j)) (cs' := (f9 j)) rfl rfl (nb rfl) rfl rfl fun de ab df => ?_
    refine y2 Tryz.isAgg40 Tryz.sizeOf40 rfl (ab.at1 (o := 0) (vs := (f9 j)) (nb rfl) rfl) ?_
    exact hR _ bl _ _ ab.drop ⟨j, bn, rfl, rfl, h⟩
   ·refine g8 Tryz.call105 (h g0) aa ?_
    rintro _ ac _ dg ad _ _ ⟨dh, ae, rfl, rfl, h⟩
    refine p5 h (fun _ h => ?_) (fun _ h => ?_)
    ·refine b5 (b4N _) ?_
     refine g7 (ad.bring 1) Tryz.sizeOf40 (vs := [(vi 3), (vi 0), (eS), (nS)]) (cs' := [(vi 3), (vi 0), (eS), (nS)]) rfl rfl (nb rfl) rfl rfl fun di af dj => ?_
     refine y2 Tryz.isAgg40 Tryz.sizeOf40 rfl (af.at1 (o := 0) (vs := [(vi 3), (vi 0), (eS), (nS)]) (nb rfl) rfl) ?_
     exact hR _ ac _ _ af.drop ⟨(d7.mk 3 0 ⟨#[]⟩ (Sl.mk none 0 0)), ae, rfl, rfl, h⟩
    ·exact hx1 _ _ (hj1 ae ac _ ((ad.bring 1).bring 1) h)
def u5 (Q7 : Int) (r9 : ByteArray) (s6 : Int) (u7 : c8) (B2 : (List b7)) (H : Hp) (K : ByteArray → d6 → (List b7) → Hp → Prop) : Prop :=
 (0 : Int) ≤ Q7 ∧ (Q7 : Int) ≤ s6 ∧ (s6 : Int) ≤ r9.size ∧
 K (r9.extract (Q7 : Int).toNat (s6 : Int).toNat) (d6.mk r9 s6 u7 (Sl.mk none 0 0)) B2 H
def y5 (a9Y : Int) (E8 : Int) (y1 : Bool) (o7 : ByteArray) (o8 : Int) (m6 : c8) (m8 : (List b7)) (H : Hp) (n2 : (Int × Bool × ByteArray × Int × c8 × (List b7)) → Hp → Prop) (K : ByteArray → d6 → (List b7) → Hp → Prop) : Prop :=
 TG (y1 = true) (a0d E8 H) false H (fun (b : Bool) (c : Hp) =>
 ((y1 && b) = true →
 z6 (d6.mk o7 o8 m6 (Sl.mk none 0 0)) m8 c (fun a d e =>
 u9 (q9 a) d e (fun f g i =>
 n2 (f, g, a.fs, a.fn, a.fat, d) i))) ∧
 ((y1 && b) = false →
 u5 a9Y o7 o8 m6 m8 c K))
def H9 (x0 : d6) (a : (List b7)) (H : Hp) (K : ByteArray → d6 → (List b7) → Hp → Prop) : Prop :=
 u9 (q9 x0) a H (fun b c d =>
 TL ((b, c, x0.fs, x0.fn, x0.fat, a) : Int × Bool × ByteArray × Int × c8 × (List b7)) d fun (s : Int × Bool × ByteArray × Int × c8 × (List b7)) H n2 => y5 x0.fn s.1 s.2.1 s.2.2.1 s.2.2.2.1 s.2.2.2.2.1 s.2.2.2.2.2 H n2 K)
theorem a0w (x0 q) {H K} (h : H9 x0 q H K) : G9 x0 q H K := by
 intro g0 y z aa
 refine Ct.of fun w0 w ps0 H0 R E I hR => a9h ?_
 unfold H9 at h
 unfold b3T
 refine b5 (s9 _) (b5 U2 (g9 (l1 Tryz.isAgg3 I rfl) ?_))
 have hj1 : ∀ (r9 : ByteArray) (s6 : Int) (u7 : c8) (B2 : (List b7)) (R5 : Sl) (K3 : Frag) H w (_ : RowL 103 5 d9 R5 B2 K3) (_ : Inv w0 ps0 H0 H [bx g0 155 [(Value.string r9), (vi s6), (vi u7.A6), (vi u7.E7), (vs R5)], K3] w) (_ : u5 x0.fn r9 s6 u7 B2 H K), a3X (Value.pointer (some ⟨g0, 0, none⟩)) (vi x0.fn) w R E := by
  intro r9 s6 u7 B2 R5 K3 H w a2r I h
  unfold a3X
  intro _
  unfold u5 at h
  refine V7 I fun ax r => ?_
  refine p7 (s9 _) ?_
  refine p7 a4p ?_
  refine p7 (s9 _) ?_
  refine p7 U2 ?_
  refine C7 (l1 Tryz.isAgg9 r rfl) ?_
  refine C7 (l1 Tryz.isAgg3 r rfl) ?_
  obtain ⟨ak, al, am, h⟩ := h
  refine p7 (a7Q r9 Tryz.underlying9 ak al am) ?_
  exact hR _ H _ _ ((r.bring 1).bring 1) ⟨(r9.extract (x0.fn : Int).toNat (s6 : Int).toNat), (d6.mk r9 s6 u7 (Sl.mk none 0 0)), B2, R5, K3, rfl, rfl, a2r, h⟩
 refine v8 fun j1 hx1 => ?_
 refine g8 Tryz.call100 (h g0 y z aa) ((I.bring 1).bring 1) ?_
 rintro _ an _ ay ao _ _ ⟨ab, ac, rfl, rfl, h⟩
 refine b5 (j8 _ _ (Value.int .i32 ab) rfl) (b5 (j8 _ _ (vB ac) rfl) ?_)
 obtain ⟨t, g, ap, aq⟩ := h
 refine E9 (J := fun n l w => ∃ (s : Int × Bool × ByteArray × Int × c8 × (List b7)) (H : Hp) (G3 : Sl) (C5 : Frag) , n = g s ∧ l = (match s with | (E8, y1, o7, o8, m6, m8) => [(Value.int .i32 E8), (vB y1)]) ∧ (match s with | (E8, y1, o7, o8, m6, m8) => RowL 103 5 d9 G3 m8 C5) ∧ (match s with | (E8, y1, o7, o8, m6, m8) => Inv w0 ps0 H0 H [bx g0 155 [(Value.string o7), (vi o8), (vi m6.A6), (vi m6.E7), (vs G3)], C5] w) ∧ t s H) ⟨_, (ab, ac, x0.fs, x0.fn, x0.fat, q), an, y, z, rfl, rfl, aa, ((ao.bring 1).bring 1), ap⟩ ?_
 rintro az ba w next2 ⟨⟨E8, y1, o7, o8, m6, m8⟩, H, G3, C5, rfl, u, O0, I, ar⟩ hn2
 dsimp only at u I O0
 simp only [List.map_cons, List.map_nil, List.cons.injEq, and_true] at u
 obtain ⟨e6, e7⟩ := u
 simp only [e6, e7]
 obtain ⟨n2, hm2, h⟩ : ∃ n2 : (Int × Bool × ByteArray × Int × c8 × (List b7)) → Hp → Prop, (∀ s' H', n2 s' H' → t s' H' ∧ g s' < g (E8, y1, o7, o8, m6, m8)) ∧ y5 x0.fn E8 y1 o7 o8 m6 m8 H n2 K := ⟨_, fun _ _ h => h, aq (E8, y1, o7, o8, m6, m8) H (fun s' H' => t s' H' ∧ g s' < g (E8, y1, o7, o8, m6, m8)) ar (fun _ _ a b => ⟨a, b⟩)⟩
 unfold a7G
 unfold y5 at h
 simp only [D2]
 refine N6 (D := fun ad j => ∃ (f : Bool) (c : Hp) , ad = (gv y1 true (vB f)) ∧ (Inv w0 ps0 H0 c [bx g0 155 [(Value.string o7), (vi o8), (vi m6.A6), (vi m6.E7), (vs G3)], C5] j) ∧ (∀ i, i < w.heap.size → ¬ inF [] i → j.heap[i]? = w.heap[i]?) ∧ Hle H c ∧ (((y1 && f) = true →
 z6 (d6.mk o7 o8 m6 (Sl.mk none 0 0)) m8 c (fun (d : d6) (k : (List b7)) (au : Hp) =>
 u9 (q9 d) k au (fun (m : Int) (o : Bool) (v : Hp) =>
 n2 (m, o, d.fs, d.fn, d.fat, k) v))) ∧
 ((y1 && f) = false →
 u5 x0.fn o7 o8 m6 m8 c K))) (fun e => ?_) (fun e => ?_) ?_
 ·replace h := h.1 e
  have ae := e
  simp only [o9 ae]
  refine g8 Tryz.call157 h I ?_
  rintro _ c _ j p af ag ⟨f, rfl, rfl, h⟩
  exact ⟨f, c, by rfl, p, ag, af, h⟩
 ·exact ⟨false, H, by rw [W9 e], I, fun _ _ _ => rfl, Hle.refl _, h.2 e⟩
 ·clear h
  rintro ad j ⟨f, c, rfl, p, ag, af, h⟩
  refine b5 (F6 _ _) ?_
  refine p5 h (fun _ h => ?_) (fun _ h => ?_)
  ·refine g8 Tryz.call152 (h g0 G3 C5 O0) ((p.bring 1).bring 1) ?_
   rintro _ _ _ bb av _ _ ⟨d, k, ah, ai, rfl, rfl, aj, h⟩
   refine g8 Tryz.call100 (h g0 ah ai aj) ((av.bring 1).bring 1) ?_
   rintro _ v _ bc aw _ _ ⟨m, o, rfl, rfl, h⟩
   refine b5 (j8 _ _ (Value.int .i32 m) rfl) (b5 (j8 _ _ (vB o) rfl) ?_)
   exact hn2 _ _ _ (hm2 _ _ h).2 ⟨(m, o, d.fs, d.fn, d.fat, k), v, ah, ai, rfl, rfl, aj, ((aw.bring 1).bring 1), (hm2 _ _ h).1⟩
  ·exact hx1 _ _ (hj1 o7 o8 m6 m8 G3 C5 c _ O0 ((p.bring 1).bring 1) h)
def a2W (x0 : d7) (H : Hp) (K : d8 → Hp → Prop) : Prop :=
 K (d8.E4 (K9.mk x0)) H
theorem a8i (x0) {H K} (h : a2W x0 H K) : a5c x0 H K := by
 refine Ct.of fun w0 w ps0 H0 R E I hR => c1c ?_
 unfold a2W at h
 unfold c3N
 refine a0p I (cs := (f9 x0)) rfl fun b c a d => ?_
 refine g9 (lW Tryz.isAgg40 Tryz.sizeOf40 rfl a) (b5 (b3q _ _ _ _ _ _) (b5 (a7D (K9.mk x0)) ?_))
 exact hR _ H _ _ a.drop ⟨(d8.E4 (K9.mk x0)), rfl, rfl, h⟩
def C0 (T0 : (List d8)) (H : Hp) (K : Sl → Hp → Prop) : Prop :=
 ∀ (D1 : Sl) (a : Hp), Hle H a → SlH a 1 u0 D1 T0 → D1.n ≤ D1.c →
 K D1 a
def C1 (A8 : Sl) (a3J : Int) (u6 : (List d8)) (s8 : Int) (H : Hp) (n2 : ((List d8) × Int) → Hp → Prop) (K : Sl → Hp → Prop) : Prop :=
 (s8 < a3J →
 (0 : Int) ≤ s8 ∧ (s8 : Int) < A8.n ∧ ∃ a : f7, EltH H A8 s8 4 (i6 a) ∧
 a5d a H (fun b c =>
 (u6.length + ([b] : List d8).length) * 17 ≤ 140737488355328 ∧
 n2 ((u6 ++ [b]), (IntKind.wrap .i64 (s8 + 1))) c)) ∧
 (¬ (s8 < a3J) →
 C0 u6 H K)
def G7 (x0 : Sl) (H : Hp) (K : Sl → Hp → Prop) : Prop :=
 TL (([], 0) : (List d8) × Int) H fun (s : (List d8) × Int) H n2 => C1 x0 (x0.n : Int) s.1 s.2 H n2 K
theorem a0l (x0) {H K} (h : G7 x0 H K) : C8 x0 H K := by
 refine Ct.of fun w0 w ps0 H0 R E I hR => c1f ?_
 unfold G7 at h
 unfold c3Q
 have hj1 : ∀ (T0 : (List d8)) (D1 : Sl) (Fs5j1 : Frag) H w (_ : RowL 131 1 u0 D1 T0 Fs5j1) (_ : Inv w0 ps0 H0 H [Fs5j1] w) (_ : C0 T0 H K), b1M (vs D1) w R E := by
  intro T0 D1 Fs5j1 H w a6x I h
  unfold b1M
  intro _
  unfold C0 at h
  obtain ⟨k, q, r, t, u⟩ := Inv.freezeC I a6x (by decide)
  replace h := h D1 k r t u
  exact hR _ k _ _ q ⟨D1, rfl, rfl, h⟩
 refine v8 fun j1 hx1 => ?_
 refine b5 (a8I _ _ _) ?_
 obtain ⟨f, d, v, y⟩ := h
 refine E9 (J := fun n l w => ∃ (s : (List d8) × Int) (H : Hp) (T2 : Sl) (Fs5l2 : Frag) , n = d s ∧ l = (match s with | (u6, s8) => [(vs T2), (vi s8)]) ∧ (match s with | (u6, s8) => RowL 131 1 u0 T2 u6 Fs5l2) ∧ (match s with | (u6, s8) => Inv w0 ps0 H0 H [Fs5l2] w) ∧ f s H) ⟨_, ([], 0), H, (Sl.mk none 0 0), [], rfl, rfl, (RowL.nil Q0 S5), I.nil, v⟩ ?_
 rintro am an w next2 ⟨⟨u6, s8⟩, H, T2, Fs5l2, rfl, g, a1h, I, z⟩ hn2
 dsimp only at g I a1h
 simp only [List.map_cons, List.map_nil, List.cons.injEq, and_true] at g
 obtain ⟨e5, e10⟩ := g
 simp only [e5, e10]
 obtain ⟨n2, hm2, h⟩ : ∃ n2 : ((List d8) × Int) → Hp → Prop, (∀ s' H', n2 s' H' → f s' H' ∧ d s' < d (u6, s8)) ∧ C1 x0 (x0.n : Int) u6 s8 H n2 K := ⟨_, fun _ _ h => h, y (u6, s8) H (fun s' H' => f s' H' ∧ d s' < d (u6, s8)) z (fun _ _ a b => ⟨a, b⟩)⟩
 unfold b5z
 unfold C1 at h
 refine b5 pLs ?_
 refine k7 h (fun _ h => ?_) (fun _ h => ?_)
 ·obtain ⟨aa, ab, i, j, h⟩ := h
  obtain ⟨ao, ap, ac, j⟩ := j
  refine b5 (b8A ac _ _ _ _ aa ab) (g9 (ldA (vs := (i6 i)) Tryz.isAgg49 Tryz.sizeOf49 rfl (I.atH j)) ?_)
  refine p8 I Tryz.zeroValue49 (cs := [(vi 0), (vi 0), (nS), (nS)]) rfl fun aq ar ad au => ?_
  refine g7 ad Tryz.sizeOf49 (vs := (i6 i)) (cs' := (i6 i)) rfl rfl (nb rfl) rfl rfl fun av m aw => ?_
  refine g9 (lW Tryz.isAgg49 Tryz.sizeOf49 rfl m) ?_
  refine g8 Tryz.call212 h m ?_
  rintro _ ae _ ax af _ _ ⟨o, rfl, rfl, h⟩
  refine U7 (e := 131) (c := u0) (xs := [o]) af (a7T _) rfl rfl Q0 S5 (nb rfl) fun ay az ba ag p bb => ?_
  obtain ⟨ah, h⟩ := h
  refine a7E (s := T2) (xs := u6) (p.bring 2) a1h (ag.srcO ((p.bring 2).bring 1)) ah fun ai aj bc ak al bd => ?_
  refine b5 pAd ?_
  exact hn2 _ _ _ (hm2 _ _ h).2 ⟨((u6 ++ [o]), (IntKind.wrap .i64 (s8 + 1))), ae, ai, aj, rfl, rfl, ak, ((al.bring 1).drop.bring 1).drop, (hm2 _ _ h).1⟩
 ·exact hx1 _ _ (hj1 u6 T2 Fs5l2 H _ a1h I h)
def a1A (x0 : U3) (H : Hp) (K : Sl → Hp → Prop) : Prop :=
 K (Sl.mk none 0 0) H
theorem a6V (x0) {H K} (h : a1A x0 H K) : a3G x0 H K := by
 refine Ct.of fun w0 w ps0 H0 R E I hR => c1i ?_
 unfold a1A at h
 unfold c3T
 refine a0p I (cs := (A0 x0.V1)) rfl fun b c a d => ?_
 exact hR _ H _ _ a.drop ⟨(Sl.mk none 0 0), rfl, rfl, h⟩
def N4 (Q7 : Bool) (b9R : Int) (a9q : Bool) (a : N9) (b : R4) (H : Hp) (K : Bool → Hp → Prop) : Prop :=
 (a9q = true →
 K (Q7 && (decide (a.fexprs = 0 ∧ a.fconds = 1))) H) ∧
 (a9q = false →
 (b9R = 7 →
 K (Q7 && (decide (a.fexprs = 0 ∧ a.fconds = 0))) H) ∧
 (¬ (b9R = 7) →
 K false H))
def a1X (x0 : R4) (H : Hp) (K : Bool → Hp → Prop) : Prop :=
 (x0.i8.g6 = 1 →
 K ((!(decide (0 < (IntKind.wrap .i64 ((x0.i8.M2.n : Int) + (x0.i8.L5.n : Int)))))) && (decide ((x0.i8.m5.n : Int) = 1 ∧ (x0.i8.A4.n : Int) = 0))) H) ∧
 (¬ (x0.i8.g6 = 1) →
 (x0.i8.g6 = 2 →
 K ((!(decide (0 < (IntKind.wrap .i64 ((x0.i8.M2.n : Int) + (x0.i8.L5.n : Int)))))) && (decide ((x0.i8.m5.n : Int) = 2 ∧ (x0.i8.A4.n : Int) = 0))) H) ∧
 (¬ (x0.i8.g6 = 2) →
 (x0.i8.g6 = 3 →
 K ((decide (x0.i8.B0 = ⟨#[]⟩)) && (decide ((x0.i8.m5.n : Int) = 0 ∧ (x0.i8.A4.n : Int) = 1))) H) ∧
 (¬ (x0.i8.g6 = 3) →
 (x0.i8.g6 = 4 →
 K (((decide (x0.i8.B0 = ⟨#[]⟩)) && (decide ((x0.i8.L5.n : Int) = 0))) && (decide ((x0.i8.m5.n : Int) = 0 ∧ (x0.i8.A4.n : Int) = 1))) H) ∧
 (¬ (x0.i8.g6 = 4) →
 (x0.i8.g6 = 5 →
 N4 ((decide (x0.i8.B0 = ⟨#[]⟩)) && (!(decide (0 < (IntKind.wrap .i64 ((x0.i8.M2.n : Int) + (x0.i8.L5.n : Int))))))) x0.i8.g6 (decide (x0.i8.g6 = 5)) (N9.mk (x0.i8.m5.n : Int) (x0.i8.A4.n : Int)) x0 H K) ∧
 (¬ (x0.i8.g6 = 5) →
 N4 ((decide (x0.i8.B0 = ⟨#[]⟩)) && (!(decide (0 < (IntKind.wrap .i64 ((x0.i8.M2.n : Int) + (x0.i8.L5.n : Int))))))) x0.i8.g6 (decide (x0.i8.g6 = 6)) (N9.mk (x0.i8.m5.n : Int) (x0.i8.A4.n : Int)) x0 H K)))))
theorem a7d (x0) {H K} (h : a1X x0 H K) : a1S x0 H K := by
 refine Ct.of fun w0 w ps0 H0 R E I hR => c1j ?_
 unfold a1X at h
 unfold c3U
 refine a0p I (cs := (t7 x0.i8)) rfl fun e i c j => ?_
 refine b5 L9 (b5 a6t (g9 (l1 Tryz.isAgg24 c rfl) (b5 (a4E _ _ _) (b5 L9 ?_))))
 refine b5 a6u (g9 (l1 Tryz.isAgg24 c rfl) (b5 (a4E _ _ _) (b5 pAd (b5 pGt ?_))))
 refine b5 L9 (b5 a2g (g9 (l1 Tryz.isAgg38 c rfl) (b5 (a5S _ _ _) (b5 L9 ?_))))
 refine b5 a3S (g9 (l1 Tryz.isAgg47 c rfl) (b5 (a8I _ _ _) (b5 (a1j _ _) ?_)))
 refine p8 c Tryz.zeroValue264 (cs := [(vi 0), (vi 0)]) rfl fun d k f l => ?_
 refine g7 f Tryz.sizeOf264 (vs := [(vi (x0.i8.m5.n : Int)), (vi (x0.i8.A4.n : Int))]) (cs' := [(vi (x0.i8.m5.n : Int)), (vi (x0.i8.A4.n : Int))]) rfl rfl (nb rfl) rfl rfl fun m b p => ?_
 refine b5 L9 (b5 a4Z (g9 (l1 Tryz.isAgg9 (b.bring 1) rfl) (b5 (R6 _ _ _ _ _) ?_)))
 simp only [D2]
 refine b5 (Pu.g fun a => by simp only [o9 a]; with_reducible exact (U5 _)) ?_
 refine b5 (F6 _ _) (b5 L9 (b5 a0r (g9 (l1 Tryz.isAgg3 (b.bring 1) rfl) (b5 pEq ?_))))
 refine k7 h (fun _ h => ?_) (fun _ h => ?_)
 ·refine b5 (U5 _) ?_
  refine g9 (Ld.g fun a => by exact (ldA Tryz.isAgg264 Tryz.sizeOf264 rfl (b.at1 (o := 0) (vs := [(vi (x0.i8.m5.n : Int)), (vi (x0.i8.A4.n : Int))]) (nb rfl) rfl))) ?_
  refine b5 (Pu.g fun a => by with_reducible exact (a1j _ _)) ?_
  refine b5 (Pu.g fun a => by simp only [o9 a]; with_reducible exact (a4F _ _ _ _ _ _)) ?_
  refine b5 (F6 _ _) ?_
  exact hR _ H _ _ b.drop.drop ⟨((!(decide (0 < (IntKind.wrap .i64 ((x0.i8.M2.n : Int) + (x0.i8.L5.n : Int)))))) && (decide ((x0.i8.m5.n : Int) = 1 ∧ (x0.i8.A4.n : Int) = 0))), rfl, rfl, h⟩
 ·refine b5 pEq ?_
  refine k7 h (fun _ h => ?_) (fun _ h => ?_)
  ·refine b5 (U5 _) ?_
   refine g9 (Ld.g fun a => by exact (ldA Tryz.isAgg264 Tryz.sizeOf264 rfl (b.at1 (o := 0) (vs := [(vi (x0.i8.m5.n : Int)), (vi (x0.i8.A4.n : Int))]) (nb rfl) rfl))) ?_
   refine b5 (Pu.g fun a => by with_reducible exact (a1j _ _)) ?_
   refine b5 (Pu.g fun a => by simp only [o9 a]; with_reducible exact (a4F _ _ _ _ _ _)) ?_
   refine b5 (F6 _ _) ?_
   exact hR _ H _ _ b.drop.drop ⟨((!(decide (0 < (IntKind.wrap .i64 ((x0.i8.M2.n : Int) + (x0.i8.L5.n : Int)))))) && (decide ((x0.i8.m5.n : Int) = 2 ∧ (x0.i8.A4.n : Int) = 0))), rfl, rfl, h⟩
  ·refine b5 pEq ?_
   refine k7 h (fun _ h => ?_) (fun _ h => ?_)
   ·refine b5 L9 (b5 a4Z (g9 (l1 Tryz.isAgg9 (b.bring 1) rfl) (b5 (R6 _ _ _ _ _) ?_)))
    refine g9 (Ld.g fun a => by exact (ldA Tryz.isAgg264 Tryz.sizeOf264 rfl (b.at1 (o := 0) (vs := [(vi (x0.i8.m5.n : Int)), (vi (x0.i8.A4.n : Int))]) (nb rfl) rfl))) ?_
    refine b5 (Pu.g fun a => by with_reducible exact (a1j _ _)) ?_
    refine b5 (Pu.g fun a => by simp only [o9 a]; with_reducible exact (a4F _ _ _ _ _ _)) ?_
    refine b5 (F6 _ _) ?_
    exact hR _ H _ _ b.drop.drop ⟨((decide (x0.i8.B0 = ⟨#[]⟩)) && (decide ((x0.i8.m5.n : Int) = 0 ∧ (x0.i8.A4.n : Int) = 1))), rfl, rfl, h⟩
   ·refine b5 pEq ?_
    refine k7 h (fun _ h => ?_) (fun _ h => ?_)
    ·refine b5 L9 (b5 a4Z (g9 (l1 Tryz.isAgg9 (b.bring 1) rfl) (b5 (R6 _ _ _ _ _) ?_)))
     refine b5 (Pu.g fun a => by with_reducible exact L9) ?_
     refine b5 (Pu.g fun a => by simp only [o9 a]; with_reducible exact a6u) ?_
     refine g9 (Ld.g fun a => by simp only [o9 a]; exact (l1 Tryz.isAgg24 (b.bring 1) rfl)) ?_
     refine b5 (Pu.g fun a => by simp only [o9 a]; with_reducible exact (a4E _ _ _)) ?_
     refine b5 (Pu.g fun a => by simp only [o9 a]; with_reducible exact pEq) ?_
     refine b5 (F6 _ _) ?_
     refine g9 (Ld.g fun a => by exact (ldA Tryz.isAgg264 Tryz.sizeOf264 rfl (b.at1 (o := 0) (vs := [(vi (x0.i8.m5.n : Int)), (vi (x0.i8.A4.n : Int))]) (nb rfl) rfl))) ?_
     refine b5 (Pu.g fun a => by with_reducible exact (a1j _ _)) ?_
     refine b5 (Pu.g fun a => by simp only [o9 a]; with_reducible exact (a4F _ _ _ _ _ _)) ?_
     refine b5 (F6 _ _) ?_
     exact hR _ H _ _ b.drop.drop ⟨(((decide (x0.i8.B0 = ⟨#[]⟩)) && (decide ((x0.i8.L5.n : Int) = 0))) && (decide ((x0.i8.m5.n : Int) = 0 ∧ (x0.i8.A4.n : Int) = 1))), rfl, rfl, h⟩
    ·have hj1 : ∀ (a9q : Bool) H w (_ : Inv w0 ps0 H0 H [bx d 264 [(vi (N9.mk (x0.i8.m5.n : Int) (x0.i8.A4.n : Int)).fexprs), (vi (N9.mk (x0.i8.m5.n : Int) (x0.i8.A4.n : Int)).fconds)], bx e 177 (t7 x0.i8)] w) (_ : N4 ((decide (x0.i8.B0 = ⟨#[]⟩)) && (!(decide (0 < (IntKind.wrap .i64 ((x0.i8.M2.n : Int) + (x0.i8.L5.n : Int))))))) x0.i8.g6 a9q (N9.mk (x0.i8.m5.n : Int) (x0.i8.A4.n : Int)) x0 H K), b1N (Value.pointer (some ⟨d, 0, none⟩)) (vB ((decide (x0.i8.B0 = ⟨#[]⟩)) && (!(decide (0 < (IntKind.wrap .i64 ((x0.i8.M2.n : Int) + (x0.i8.L5.n : Int)))))))) (vi x0.i8.g6) (vB a9q) w R E := by
      intro a9q H w I h
      unfold b1N
      intro _
      unfold N4 at h
      refine p5 h (fun _ h => ?_) (fun _ h => ?_)
      ·refine g9 (Ld.g fun a => by exact (ldA Tryz.isAgg264 Tryz.sizeOf264 rfl (I.at1 (o := 0) (vs := [(vi (N9.mk (x0.i8.m5.n : Int) (x0.i8.A4.n : Int)).fexprs), (vi (N9.mk (x0.i8.m5.n : Int) (x0.i8.A4.n : Int)).fconds)]) (nb rfl) rfl))) ?_
       refine b5 (Pu.g fun a => by with_reducible exact (a1j _ _)) ?_
       refine b5 (Pu.g fun a => by simp only [o9 a]; with_reducible exact (a4F _ _ _ _ _ _)) ?_
       refine b5 (F6 _ _) ?_
       exact hR _ H _ _ I.drop.drop ⟨(((decide (x0.i8.B0 = ⟨#[]⟩)) && (!(decide (0 < (IntKind.wrap .i64 ((x0.i8.M2.n : Int) + (x0.i8.L5.n : Int))))))) && (decide ((N9.mk (x0.i8.m5.n : Int) (x0.i8.A4.n : Int)).fexprs = 0 ∧ (N9.mk (x0.i8.m5.n : Int) (x0.i8.A4.n : Int)).fconds = 1))), rfl, rfl, h⟩
      ·refine b5 pEq ?_
       refine k7 h (fun _ h => ?_) (fun _ h => ?_)
       ·refine g9 (Ld.g fun a => by exact (ldA Tryz.isAgg264 Tryz.sizeOf264 rfl (I.at1 (o := 0) (vs := [(vi (N9.mk (x0.i8.m5.n : Int) (x0.i8.A4.n : Int)).fexprs), (vi (N9.mk (x0.i8.m5.n : Int) (x0.i8.A4.n : Int)).fconds)]) (nb rfl) rfl))) ?_
        refine b5 (Pu.g fun a => by with_reducible exact (b6v )) ?_
        refine b5 (Pu.g fun a => by simp only [o9 a]; with_reducible exact (a4F _ _ _ _ _ _)) ?_
        refine b5 (F6 _ _) ?_
        exact hR _ H _ _ I.drop.drop ⟨(((decide (x0.i8.B0 = ⟨#[]⟩)) && (!(decide (0 < (IntKind.wrap .i64 ((x0.i8.M2.n : Int) + (x0.i8.L5.n : Int))))))) && (decide ((N9.mk (x0.i8.m5.n : Int) (x0.i8.A4.n : Int)).fexprs = 0 ∧ (N9.mk (x0.i8.m5.n : Int) (x0.i8.A4.n : Int)).fconds = 0))), rfl, rfl, h⟩
       ·exact hR _ H _ _ I.drop.drop ⟨false, rfl, rfl, h⟩
     refine v8 fun j1 hx1 => ?_
     refine b5 pEq ?_
     refine k7 h (fun _ h => ?_) (fun _ h => ?_)
     ·exact hx1 _ _ (hj1 (decide (x0.i8.g6 = 5)) H _ ((b.bring 1).bring 1) h)
     ·refine b5 pEq ?_
      exact hx1 _ _ (hj1 (decide (x0.i8.g6 = 6)) H _ ((b.bring 1).bring 1) h)
end Go.Proofs.YthklmeihgmcljaaGreatDoor
