/- Typed formulas of the program's functions, and the theorems that the contracts follow from them; printed by lift.py off the code. -/
import Derived.Test.YthklmeihgmcljaaGreatDoorzCV1
namespace Go.Proofs.YthklmeihgmcljaaGreatDoor
open Go.RowKit
set_option maxRecDepth 100000
set_option maxHeartbeats 2000000
def a3x (H : Hp) (K : Bool → Hp → Prop) : Prop :=
 a1f ⟨#[118, 97, 114, 32, 120, 59, 32, 120, 32, 61, 32, 49, 32, 43, 32, 50, 32, 42, 32, 120, 59]⟩ H (fun a k b i =>
 a1f ⟨#[120, 32, 61, 32, 59]⟩ i (fun l f j c =>
 ∃ d : g5, ((((decide (b = 0)) && (decide ((a.a3z.n : Int) = 1))) && (decide ((a.a2K.n : Int) = 1))) = true → (0 : Int) ≤ 0 ∧ (0 : Int) < a.a2K.n ∧ EltH c a.a2K 0 6 (s7 d)) ∧
 ∃ e : g5, (((((decide (b = 0)) && (decide ((a.a3z.n : Int) = 1))) && (decide ((a.a2K.n : Int) = 1))) && (decide ((d.l8.n : Int) = 1))) = true → (0 : Int) ≤ 0 ∧ (0 : Int) < a.a2K.n ∧ EltH c a.a2K 0 6 (s7 e)) ∧
 ∃ g : b7, (((((decide (b = 0)) && (decide ((a.a3z.n : Int) = 1))) && (decide ((a.a2K.n : Int) = 1))) && (decide ((d.l8.n : Int) = 1))) = true → (0 : Int) ≤ 0 ∧ (0 : Int) < e.l8.n ∧ EltH c e.l8 0 4 (c8 g)) ∧
 K (((((((decide (b = 0)) && (decide ((a.a3z.n : Int) = 1))) && (decide ((a.a2K.n : Int) = 1))) && (decide ((d.l8.n : Int) = 1))) && (decide (g.f7 = 6))) && (decide (j = 40))) && (decide (f.v7 = 1 ∧ f.C8 = 5))) c))
theorem a6z {H K} (h : a3x H K) : a1g H K := by
 refine Ct.of fun w0 w ps0 H0 R E I hR => c5A ?_
 unfold a3x at h
 unfold F8
 refine g8 Tryz.call9 h I ?_
 rintro _ _ _ af s _ _ ⟨f, o, p, rfl, rfl, h⟩
 refine a7 (j7 _ _ _ rfl) (a7 (j7 _ _ _ rfl) (a7 (j7 _ _ (vi p) rfl) ?_))
 refine m7 s Tryz.zeroValue26 (cs := [(nS), (nS)]) rfl fun ag ah t ai => ?_
 refine m7 t Tryz.zeroValue28 (cs := [(vi 0), (vi 0)]) rfl fun aj ak u al => ?_
 refine g6 (u.bring 1) Tryz.sizeOf26 (vs := (p7 f)) (cs' := (p7 f)) rfl rfl (nb rfl) rfl rfl fun am y an => ?_
 refine g6 (y.bring 1) Tryz.sizeOf28 (vs := (d9 o)) (cs' := (d9 o)) rfl rfl (nb rfl) rfl rfl fun ao z ap => ?_
 refine g8 Tryz.call9 h z ?_
 rintro _ aa _ aq ab _ _ ⟨q, i, r, rfl, rfl, h⟩
 refine a7 (j7 _ _ _ rfl) (a7 (j7 _ _ _ rfl) (a7 (j7 _ _ (vi r) rfl) ?_))
 refine m7 ab Tryz.zeroValue26 (cs := [(nS), (nS)]) rfl fun ar au ac av => ?_
 refine m7 ac Tryz.zeroValue28 (cs := [(vi 0), (vi 0)]) rfl fun aw ax ad ay => ?_
 refine g6 (ad.bring 1) Tryz.sizeOf26 (vs := (p7 q)) (cs' := (p7 q)) rfl rfl (nb rfl) rfl rfl fun az ae ba => ?_
 refine g6 (ae.bring 1) Tryz.sizeOf28 (vs := (d9 i)) (cs' := (d9 i)) rfl rfl (nb rfl) rfl rfl fun bb b bc => ?_
 refine a7 pEq ?_
 refine a7 (Pu.g fun a => by with_reducible exact a6r) ?_
 refine g7 (Ld.g fun a => by simp only [m6 a]; exact (l1 Tryz.isAgg23 (b.bring 3) rfl)) ?_
 refine a7 (Pu.g fun a => by simp only [m6 a]; with_reducible exact (b2r _ _ _)) ?_
 refine a7 (Pu.g fun a => by simp only [m6 a]; with_reducible exact pEq) ?_
 refine a7 (I0 _ _) ?_
 refine a7 (Pu.g fun a => by with_reducible exact a3R) ?_
 refine g7 (Ld.g fun a => by simp only [m6 a]; exact (l1 Tryz.isAgg24 (b.bring 3) rfl)) ?_
 refine a7 (Pu.g fun a => by simp only [m6 a]; with_reducible exact (a5S _ _ _)) ?_
 refine a7 (Pu.g fun a => by simp only [m6 a]; with_reducible exact pEq) ?_
 refine a7 (I0 _ _) ?_
 refine a7 (Pu.g fun a => by with_reducible exact a3R) ?_
 refine g7 (Ld.g fun a => by simp only [m6 a]; exact (l1 Tryz.isAgg24 (b.bring 3) rfl)) ?_
 obtain ⟨j, c, h⟩ := h
 obtain ⟨bd, be, c⟩ := b0u c
 refine a7 (Pu.g fun hb => by have a := hb; simp only [m6 a]; with_reducible exact (a9Y (c hb).2.2.1 _ _ _ _ (c hb).1 (c hb).2.1)) ?_
 refine a7 (Pu.g fun a => by simp only [m6 a]; with_reducible exact a2g) ?_
 refine g7 (Ld.g fun hb => by have a := hb; simp only [m6 a]; exact (ld1 (v := (vs j.l8)) Tryz.isAgg38 ((b.atH (c hb).2.2.2).sub (k := 2) (n := 1) (nb rfl)))) ?_
 refine a7 (Pu.g fun a => by simp only [m6 a]; with_reducible exact (a4E _ _ _)) ?_
 refine a7 (Pu.g fun a => by simp only [m6 a]; with_reducible exact pEq) ?_
 refine a7 (I0 _ _) ?_
 refine a7 (Pu.g fun a => by with_reducible exact a3R) ?_
 refine g7 (Ld.g fun a => by simp only [m6 a]; exact (l1 Tryz.isAgg24 (b.bring 3) rfl)) ?_
 obtain ⟨m, d, h⟩ := h
 obtain ⟨bf, bg, d⟩ := b0u d
 refine a7 (Pu.g fun hb => by have a := hb; simp only [m6 a]; with_reducible exact (a9Y (d hb).2.2.1 _ _ _ _ (d hb).1 (d hb).2.1)) ?_
 refine a7 (Pu.g fun a => by simp only [m6 a]; with_reducible exact a2g) ?_
 refine g7 (Ld.g fun hb => by have a := hb; simp only [m6 a]; exact (ld1 (v := (vs m.l8)) Tryz.isAgg38 ((b.atH (d hb).2.2.2).sub (k := 2) (n := 1) (nb rfl)))) ?_
 obtain ⟨l, e, h⟩ := h
 obtain ⟨bh, bi, e⟩ := b0u e
 refine a7 (Pu.g fun hb => by have a := hb; simp only [m6 a]; with_reducible exact (a6L (e hb).2.2.1 _ _ _ _ (e hb).1 (e hb).2.1)) ?_
 refine a7 (Pu.g fun a => by simp only [m6 a]; with_reducible exact a2f) ?_
 refine g7 (Ld.g fun hb => by have a := hb; simp only [m6 a]; exact (ld1 (v := (vi l.f7)) Tryz.isAgg3 ((b.atH (e hb).2.2.2).sub (k := 0) (n := 1) (nb rfl)))) ?_
 refine a7 (Pu.g fun a => by simp only [m6 a]; with_reducible exact pEq) ?_
 refine a7 (I0 _ _) ?_
 simp only [C9]
 refine a7 (Pu.g fun a => by simp only [m6 a]; with_reducible exact pEq) ?_
 refine a7 (I0 _ _) ?_
 refine g7 (Ld.g fun a => by exact (lW Tryz.isAgg28 Tryz.sizeOf28 rfl b)) ?_
 refine a7 (Pu.g fun a => by with_reducible exact (a8s _ _)) ?_
 refine a7 (Pu.g fun a => by simp only [m6 a]; with_reducible exact (b8H _ _ _ _ _ _)) ?_
 refine a7 (I0 _ _) ?_
 exact hR _ aa _ _ b.drop.drop.drop.drop ⟨(((((((decide (p = 0)) && (decide ((f.a3z.n : Int) = 1))) && (decide ((f.a2K.n : Int) = 1))) && (decide ((j.l8.n : Int) = 1))) && (decide (l.f7 = 6))) && (decide (r = 40))) && (decide (i.v7 = 1 ∧ i.C8 = 5))), rfl, rfl, h⟩
def a2h (x0 : b8) (x1 : ByteArray) (H : Hp) (K : Bool → b8 → Hp → Prop) : Prop :=
 s9 x0 x1 H (fun a b =>
 ((!a) = true →
 K false x0 b) ∧
 ((!a) = false →
 K true (b8.mk x0.fl (IntKind.wrap .i64 (x0.fat + 1)) x0.fbad x0.fpos) b))
theorem a2i (x0 x1) {H K} (h : a2h x0 x1 H K) : N7 x0 x1 H K := by
 intro g0
 refine Ct.of fun w0 w ps0 H0 R E I hR => c2Z ?_
 unfold a2h at h
 unfold F67
 refine g8 Tryz.call23 (h g0) I ?_
 rintro _ b _ d a _ _ ⟨e, rfl, rfl, h⟩
 refine a7 (T8 _) ?_
 refine m8 h (fun _ h => ?_) (fun _ h => ?_)
 ·exact hR _ b _ _ a ⟨false, x0, rfl, rfl, h⟩
 ·refine a7 (q7 _) (a7 a2L (g7 (l1 Tryz.isAgg3 a rfl) (a7 pAd (a7 (q7 _) ?_))))
  refine a7 a2L ?_
  refine g6 a Tryz.sizeOf3 (vs := [(vi (IntKind.wrap .i64 (x0.fat + 1)))]) (cs' := [(vs x0.fl), (vi (IntKind.wrap .i64 (x0.fat + 1))), (vi x0.fbad), (vi x0.fpos.v7), (vi x0.fpos.C8)]) rfl rfl (nb rfl) rfl rfl fun f c g => ?_
  exact hR _ b _ _ c ⟨true, (b8.mk x0.fl (IntKind.wrap .i64 (x0.fat + 1)) x0.fbad x0.fpos), rfl, rfl, h⟩
def A6 (c7c : Int) (a8Q : Int) (a5f : b8) (d : b7) (e : b7) (H : Hp) (n2 : (b7 × b8 × b7) → Hp → Prop) (K : b7 → b8 → Hp → Prop) : Prop :=
 S0 (b8.mk a5f.fl (IntKind.wrap .i64 (a5f.fat + 1)) a5f.fbad a5f.fpos) c7c H (fun f g i =>
 ∀ (a : Sl) (b : Hp), Hle i b → SlH b 4 c8 a [d, f] → a.n ≤ a.c →
 n2 ((b7.mk a8Q 0 ⟨#[]⟩ a), g, e) b)
def P8 (s8 : b8) (a : b7) (b : b7) (H : Hp) (K : b7 → b8 → Hp → Prop) : Prop :=
 K a s8 H
def P9 (a3H : Int) (a : b7) (m5 : b8) (b : b7) (H : Hp) (n2 : (b7 × b8 × b7) → Hp → Prop) (K : b7 → b8 → Hp → Prop) : Prop :=
 s9 m5 ⟨#[43]⟩ H (fun c d =>
 TG (c = false) (s9 m5 ⟨#[45]⟩ d) false d (fun (e : Bool) (f : Hp) =>
 ((c || e) = true →
 s9 m5 ⟨#[45]⟩ f (fun g i =>
 (g = true →
 A6 a3H 7 m5 a b i n2 K) ∧
 (g = false →
 A6 a3H 6 m5 a b i n2 K))) ∧
 ((c || e) = false →
 P8 m5 a b f K)))
def X5 (x0 : b8) (x1 : Int) (H : Hp) (K : b7 → b8 → Hp → Prop) : Prop :=
 S0 x0 x1 H (fun a b c =>
 TL ((a, b, (b7.mk 0 0 ⟨#[]⟩ (Sl.mk none 0 0))) : b7 × b8 × b7) c fun (s : b7 × b8 × b7) H n2 => P9 x1 s.1 s.2.1 s.2.2 H n2 K)
theorem a4S (x0 x1) {H K} (h : X5 x0 x1 H K) : a1N x0 x1 H K := by
 intro g0
 refine Ct.of fun w0 w ps0 H0 R E I hR => c2N ?_
 unfold X5 at h
 unfold F37
 refine m7 I Tryz.zeroValue40 (cs := [(vi 0), (vi 0), (eS), (nS)]) rfl fun m bn aq bo => ?_
 refine g8 Tryz.call83 (h g0) (aq.bring 1) ?_
 rintro _ ar _ bp au _ _ ⟨aa, av, rfl, rfl, h⟩
 refine m7 au Tryz.zeroValue40 (cs := [(vi 0), (vi 0), (eS), (nS)]) rfl fun p bq aw br => ?_
 refine g6 aw Tryz.sizeOf40 (vs := (c8 aa)) (cs' := (c8 aa)) rfl rfl (nb rfl) rfl rfl fun bs ax bt => ?_
 have hj1 : ∀ (s8 : b8) (j : b7) (ab : b7) H w (_ : Inv w0 ps0 H0 H [bx g0 66 (j8 s8), bx p 40 (c8 j), bx m 40 (c8 ab)] w) (_ : P8 s8 j ab H K), b3F (Value.pointer (some ⟨m, 0, none⟩)) (Value.pointer (some ⟨p, 0, none⟩)) w R E := by
  intro s8 j ab H w I h
  unfold b3F
  intro _
  unfold P8 at h
  refine g7 (lW Tryz.isAgg40 Tryz.sizeOf40 rfl (I.bring 1)) ?_
  refine g6 (I.bring 2) Tryz.sizeOf40 (vs := (c8 j)) (cs' := (c8 j)) rfl rfl (nb rfl) rfl rfl fun bu af bv => ?_
  refine u1 Tryz.isAgg40 Tryz.sizeOf40 rfl (af.at1 (o := 0) (vs := (c8 j)) (nb rfl) rfl) ?_
  exact hR _ H _ _ (af.drop.bring 1).drop ⟨j, s8, rfl, rfl, h⟩
 refine u7 fun j1 hx1 => ?_
 obtain ⟨ac, r, ay, az⟩ := h
 refine E8 (J := fun n l w => ∃ (s : b7 × b8 × b7) (H : Hp) , n = r s ∧ l = (match s with | (d, m5, f) => []) ∧ (match s with | (d, m5, f) => Inv w0 ps0 H0 H [bx p 40 (c8 d), bx g0 66 (j8 m5), bx m 40 (c8 f)] w) ∧ ac s H) ⟨_, (aa, av, (b7.mk 0 0 ⟨#[]⟩ (Sl.mk none 0 0))), ar, rfl, rfl, (((ax.bring 2).bring 2).bring 2), ay⟩ ?_
 rintro bw bz w next2 ⟨⟨d, m5, f⟩, H, rfl, ag, I, ba⟩ hn2
 dsimp only at ag I
 clear ag
 obtain ⟨n2, hm2, h⟩ : ∃ n2 : (b7 × b8 × b7) → Hp → Prop, (∀ s' H', n2 s' H' → ac s' H' ∧ r s' < r (d, m5, f)) ∧ P9 x1 d m5 f H n2 K := ⟨_, fun _ _ h => h, az (d, m5, f) H (fun s' H' => ac s' H' ∧ r s' < r (d, m5, f)) ba (fun _ _ a b => ⟨a, b⟩)⟩
 unfold b7B
 unfold P9 at h
 refine g8 Tryz.call23 (h g0) (I.bring 1) ?_
 rintro _ ah _ ai aj _ _ ⟨ad, rfl, rfl, h⟩
 simp only [C9]
 refine O5 (D := fun ak u => ∃ (q : Bool) (g : Hp) , ak = (gv ad false (vB q)) ∧ (Inv w0 ps0 H0 g [bx g0 66 (j8 m5), bx p 40 (c8 d), bx m 40 (c8 f)] u) ∧ (∀ i, i < ai.heap.size → ¬ inF [bx g0 66 (j8 m5)] i → u.heap[i]? = ai.heap[i]?) ∧ Hle ah g ∧ (((ad || q) = true →
 s9 m5 ⟨#[45]⟩ g (fun (ae : Bool) (t : Hp) =>
 (ae = true →
 A6 x1 7 m5 d f t n2 K) ∧
 (ae = false →
 A6 x1 6 m5 d f t n2 K))) ∧
 ((ad || q) = false →
 P8 m5 d f g K))) (fun k => ?_) (fun k => ?_) ?_
 ·replace h := h.1 k
  have al := k
  simp only [m6 al]
  refine g8 Tryz.call23 (h g0) aj ?_
  rintro _ g _ u v am an ⟨q, rfl, rfl, h⟩
  exact ⟨q, g, by rfl, v, an, am, h⟩
 ·exact ⟨false, ah, by rw [X9 k], aj, fun _ _ _ => rfl, Hle.refl _, h.2 k⟩
 ·clear h
  rintro ak u ⟨q, g, rfl, v, an, am, h⟩
  refine a7 (L0 _ _) ?_
  refine m8 h (fun _ h => ?_) (fun _ h => ?_)
  ·have hj3 : ∀ (a8Q : Int) H w (_ : Inv w0 ps0 H0 H [bx g0 66 (j8 m5), bx p 40 (c8 d), bx m 40 (c8 f)] w) (_ : A6 x1 a8Q m5 d f H n2 K), b3G (Value.pointer (some ⟨g0, 0, none⟩)) (vi x1) (Value.pointer (some ⟨m, 0, none⟩)) (Value.pointer (some ⟨p, 0, none⟩)) (vi a8Q) w next2 R E := by
    intro a8Q H w I h
    unfold b3G
    intro _
    unfold A6 at h
    refine a7 (q7 _) (a7 a2L (g7 (l1 Tryz.isAgg3 I rfl) (a7 pAd (a7 (q7 _) ?_))))
    refine a7 a2L ?_
    refine g6 I Tryz.sizeOf3 (vs := [(vi (IntKind.wrap .i64 (m5.fat + 1)))]) (cs' := [(vs m5.fl), (vi (IntKind.wrap .i64 (m5.fat + 1))), (vi m5.fbad), (vi m5.fpos.v7), (vi m5.fpos.C8)]) rfl rfl (nb rfl) rfl rfl fun ca bb cb => ?_
    refine U3 bb fun cc y => ?_
    refine A0 (lW Tryz.isAgg40 Tryz.sizeOf40 rfl (y.bring 1)) ?_
    refine g8 Tryz.call83 (h g0) y ?_
    rintro _ _ _ cd bc _ bd ⟨be, bf, rfl, rfl, h⟩
    refine ⟨(bd _ (y.bring 1).lt1 (Inv.Y1 (Fi := [bx g0 66 [(vs m5.fl), (vi (IntKind.wrap .i64 (m5.fat + 1))), (vi m5.fbad), (vi m5.fpos.v7), (vi m5.fpos.C8)]]) ((y.bring 1).bring 1))), ?_⟩
    refine U4 (e := 40) (c := c8) (xs := [d, be]) bc (a9i _ _ _ _ _ _ _ _ _ _ _ _) rfl rfl M6 M7 (nb rfl) fun z ce cf bg bh cg => ?_
    refine o8 (a4u _ _ _ _) ?_
    refine g6 (bh.bring 2) Tryz.sizeOf40 (vs := [(vi a8Q), (vi 0), (eS), (vs z)]) (cs' := [(vi a8Q), (vi 0), (eS), (vs z)]) rfl rfl (nb rfl) rfl rfl fun ch bi ci => ?_
    obtain ⟨ao, bj, bk, bl, bm⟩ := Inv.freezeC (bi.bring 1) bg (by decide)
    replace h := h z ao bk bl bm
    exact hn2 _ _ _ (hm2 _ _ h).2 ⟨((b7.mk a8Q 0 ⟨#[]⟩ z), bf, f), ao, rfl, rfl, (((bj.bring 2).bring 2).bring 2), (hm2 _ _ h).1⟩
   refine u7 fun j3 hx3 => ?_
   refine g8 Tryz.call23 (h g0) v ?_
   rintro _ t _ cj ap _ _ ⟨ae, rfl, rfl, h⟩
   refine m8 h (fun _ h => ?_) (fun _ h => ?_)
   ·exact hx3 _ _ (hj3 7 t _ (((ap.bring 2).bring 2).bring 2) h)
   ·exact hx3 _ _ (hj3 6 t _ (((ap.bring 2).bring 2).bring 2) h)
  ·exact hx1 _ _ (hj1 m5 d f g _ (((v.bring 2).bring 2).bring 2) h)
def B3 (S9 : (List d7)) (H : Hp) (K : Sl → Hp → Prop) : Prop :=
 ∀ (C6 : Sl) (a : Hp), Hle H a → SlH a 1 p9 C6 S9 → C6.n ≤ C6.c →
 K C6 a
def B4 (A5 : Sl) (a3I : Int) (u0 : (List d7)) (r9 : Int) (H : Hp) (n2 : ((List d7) × Int) → Hp → Prop) (K : Sl → Hp → Prop) : Prop :=
 (r9 < a3I →
 (0 : Int) ≤ r9 ∧ (r9 : Int) < A5.n ∧ ∃ a : l0, EltH H A5 r9 2 (z6 a) ∧
 a5a a H (fun b c =>
 (u0.length + ([b] : List d7).length) * 17 ≤ 140737488355328 ∧
 n2 ((u0 ++ [b]), (IntKind.wrap .i64 (r9 + 1))) c)) ∧
 (¬ (r9 < a3I) →
 B3 u0 H K)
def G4 (x0 : Sl) (H : Hp) (K : Sl → Hp → Prop) : Prop :=
 TL (([], 0) : (List d7) × Int) H fun (s : (List d7) × Int) H n2 => B4 x0 (x0.n : Int) s.1 s.2 H n2 K
theorem a0f (x0) {H K} (h : G4 x0 H K) : G0 x0 H K := by
 refine Ct.of fun w0 w ps0 H0 R E I hR => c3c ?_
 unfold G4 at h
 unfold F76
 have hj1 : ∀ (S9 : (List d7)) (C6 : Sl) (Fs5j1 : Frag) H w (_ : RowL 131 1 p9 C6 S9 Fs5j1) (_ : Inv w0 ps0 H0 H [Fs5j1] w) (_ : B3 S9 H K), b3S (vs C6) w R E := by
  intro S9 C6 Fs5j1 H w a6x I h
  unfold b3S
  intro _
  unfold B3 at h
  obtain ⟨k, q, r, t, u⟩ := Inv.freezeC I a6x (by decide)
  replace h := h C6 k r t u
  exact hR _ k _ _ q ⟨C6, rfl, rfl, h⟩
 refine u7 fun j1 hx1 => ?_
 refine a7 (b2r _ _ _) ?_
 obtain ⟨f, d, v, y⟩ := h
 refine E8 (J := fun n l w => ∃ (s : (List d7) × Int) (H : Hp) (T1 : Sl) (Fs5l2 : Frag) , n = d s ∧ l = (match s with | (u0, r9) => [(vs T1), (vi r9)]) ∧ (match s with | (u0, r9) => RowL 131 1 p9 T1 u0 Fs5l2) ∧ (match s with | (u0, r9) => Inv w0 ps0 H0 H [Fs5l2] w) ∧ f s H) ⟨_, ([], 0), H, (Sl.mk none 0 0), [], rfl, rfl, (RowL.nil M8 Q1), I.nil, v⟩ ?_
 rintro am an w next2 ⟨⟨u0, r9⟩, H, T1, Fs5l2, rfl, g, a1j, I, z⟩ hn2
 dsimp only at g I a1j
 simp only [List.map_cons, List.map_nil, List.cons.injEq, and_true] at g
 obtain ⟨e5, e10⟩ := g
 simp only [e5, e10]
 obtain ⟨n2, hm2, h⟩ : ∃ n2 : ((List d7) × Int) → Hp → Prop, (∀ s' H', n2 s' H' → f s' H' ∧ d s' < d (u0, r9)) ∧ B4 x0 (x0.n : Int) u0 r9 H n2 K := ⟨_, fun _ _ h => h, y (u0, r9) H (fun s' H' => f s' H' ∧ d s' < d (u0, r9)) z (fun _ _ a b => ⟨a, b⟩)⟩
 unfold b7H
 unfold B4 at h
 refine a7 pLs ?_
 refine j9 h (fun _ h => ?_) (fun _ h => ?_)
 ·obtain ⟨aa, ab, i, j, h⟩ := h
  obtain ⟨ao, ap, ac, j⟩ := j
  refine a7 (b8I ac _ _ _ _ aa ab) (g7 (ldA (vs := (z6 i)) Tryz.isAgg68 Tryz.sizeOf68 rfl (I.atH j)) ?_)
  refine m7 I Tryz.zeroValue68 (cs := [(eS), (vi 0)]) rfl fun aq ar ad au => ?_
  refine g6 ad Tryz.sizeOf68 (vs := (z6 i)) (cs' := (z6 i)) rfl rfl (nb rfl) rfl rfl fun av m aw => ?_
  refine g7 (lW Tryz.isAgg68 Tryz.sizeOf68 rfl m) ?_
  refine g8 Tryz.call77 h m ?_
  rintro _ ae _ ax af _ _ ⟨o, rfl, rfl, h⟩
  refine U4 (e := 131) (c := p9) (xs := [o]) af (a6N _) rfl rfl M8 Q1 (nb rfl) fun ay az ba ag p bb => ?_
  obtain ⟨ah, h⟩ := h
  refine a7D (s := T1) (xs := u0) (p.bring 2) a1j (ag.srcO ((p.bring 2).bring 1)) ah fun ai aj bc ak al bd => ?_
  refine a7 pAd ?_
  exact hn2 _ _ _ (hm2 _ _ h).2 ⟨((u0 ++ [o]), (IntKind.wrap .i64 (r9 + 1))), ae, ai, aj, rfl, rfl, ak, ((al.bring 1).drop.bring 1).drop, (hm2 _ _ h).1⟩
 ·exact hx1 _ _ (hj1 u0 T1 Fs5l2 H _ a1j I h)
def B5 (S9 : (List d7)) (H : Hp) (K : Sl → Hp → Prop) : Prop :=
 ∀ (C6 : Sl) (a : Hp), Hle H a → SlH a 1 p9 C6 S9 → C6.n ≤ C6.c →
 K C6 a
def B6 (A5 : Sl) (a3I : Int) (u0 : (List d7)) (r9 : Int) (H : Hp) (n2 : ((List d7) × Int) → Hp → Prop) (K : Sl → Hp → Prop) : Prop :=
 (r9 < a3I →
 (0 : Int) ≤ r9 ∧ (r9 : Int) < A5.n ∧ ∃ a : g5, EltH H A5 r9 6 (s7 a) ∧
 a5b a H (fun b c =>
 (u0.length + ([b] : List d7).length) * 17 ≤ 140737488355328 ∧
 n2 ((u0 ++ [b]), (IntKind.wrap .i64 (r9 + 1))) c)) ∧
 (¬ (r9 < a3I) →
 B5 u0 H K)
def G5 (x0 : Sl) (H : Hp) (K : Sl → Hp → Prop) : Prop :=
 TL (([], 0) : (List d7) × Int) H fun (s : (List d7) × Int) H n2 => B6 x0 (x0.n : Int) s.1 s.2 H n2 K
theorem a0g (x0) {H K} (h : G5 x0 H K) : y6 x0 H K := by
 refine Ct.of fun w0 w ps0 H0 R E I hR => c3e ?_
 unfold G5 at h
 unfold F78
 have hj1 : ∀ (S9 : (List d7)) (C6 : Sl) (Fs5j1 : Frag) H w (_ : RowL 131 1 p9 C6 S9 Fs5j1) (_ : Inv w0 ps0 H0 H [Fs5j1] w) (_ : B5 S9 H K), b3T (vs C6) w R E := by
  intro S9 C6 Fs5j1 H w a6x I h
  unfold b3T
  intro _
  unfold B5 at h
  obtain ⟨k, q, r, t, u⟩ := Inv.freezeC I a6x (by decide)
  replace h := h C6 k r t u
  exact hR _ k _ _ q ⟨C6, rfl, rfl, h⟩
 refine u7 fun j1 hx1 => ?_
 refine a7 (a5S _ _ _) ?_
 obtain ⟨f, d, v, y⟩ := h
 refine E8 (J := fun n l w => ∃ (s : (List d7) × Int) (H : Hp) (T1 : Sl) (Fs5l2 : Frag) , n = d s ∧ l = (match s with | (u0, r9) => [(vs T1), (vi r9)]) ∧ (match s with | (u0, r9) => RowL 131 1 p9 T1 u0 Fs5l2) ∧ (match s with | (u0, r9) => Inv w0 ps0 H0 H [Fs5l2] w) ∧ f s H) ⟨_, ([], 0), H, (Sl.mk none 0 0), [], rfl, rfl, (RowL.nil M8 Q1), I.nil, v⟩ ?_
 rintro am an w next2 ⟨⟨u0, r9⟩, H, T1, Fs5l2, rfl, g, a1j, I, z⟩ hn2
 dsimp only at g I a1j
 simp only [List.map_cons, List.map_nil, List.cons.injEq, and_true] at g
 obtain ⟨e5, e10⟩ := g
 simp only [e5, e10]
 obtain ⟨n2, hm2, h⟩ : ∃ n2 : ((List d7) × Int) → Hp → Prop, (∀ s' H', n2 s' H' → f s' H' ∧ d s' < d (u0, r9)) ∧ B6 x0 (x0.n : Int) u0 r9 H n2 K := ⟨_, fun _ _ h => h, y (u0, r9) H (fun s' H' => f s' H' ∧ d s' < d (u0, r9)) z (fun _ _ a b => ⟨a, b⟩)⟩
 unfold b7I
 unfold B6 at h
 refine a7 pLs ?_
 refine j9 h (fun _ h => ?_) (fun _ h => ?_)
 ·obtain ⟨aa, ab, i, j, h⟩ := h
  obtain ⟨ao, ap, ac, j⟩ := j
  refine a7 (a9Y ac _ _ _ _ aa ab) (g7 (ldA (vs := (s7 i)) Tryz.isAgg56 Tryz.sizeOf56 rfl (I.atH j)) ?_)
  refine m7 I Tryz.zeroValue56 (cs := [(vi 0), (eS), (nS), (nS), (nS), (nS)]) rfl fun aq ar ad au => ?_
  refine g6 ad Tryz.sizeOf56 (vs := (s7 i)) (cs' := (s7 i)) rfl rfl (nb rfl) rfl rfl fun av m aw => ?_
  refine g7 (lW Tryz.isAgg56 Tryz.sizeOf56 rfl m) ?_
  refine g8 Tryz.call79 h m ?_
  rintro _ ae _ ax af _ _ ⟨o, rfl, rfl, h⟩
  refine U4 (e := 131) (c := p9) (xs := [o]) af (a6N _) rfl rfl M8 Q1 (nb rfl) fun ay az ba ag p bb => ?_
  obtain ⟨ah, h⟩ := h
  refine a7D (s := T1) (xs := u0) (p.bring 2) a1j (ag.srcO ((p.bring 2).bring 1)) ah fun ai aj bc ak al bd => ?_
  refine a7 pAd ?_
  exact hn2 _ _ _ (hm2 _ _ h).2 ⟨((u0 ++ [o]), (IntKind.wrap .i64 (r9 + 1))), ae, ai, aj, rfl, rfl, ak, ((al.bring 1).drop.bring 1).drop, (hm2 _ _ h).1⟩
 ·exact hx1 _ _ (hj1 u0 T1 Fs5l2 H _ a1j I h)
def a4J (x0 : Int) (x1 : Int) (x2 : Int) (H : Hp) (K : Bool → Hp → Prop) : Prop :=
 K ((decide (x0 ≤ x2)) && (decide (x2 ≤ x1))) H
theorem a7I (x0 x1 x2) {H K} (h : a4J x0 x1 x2 H K) : K0 x0 x1 x2 H K := by
 intro g2
 refine Ct.of fun w0 w ps0 H0 R E I hR => c1f ?_
 unfold a4J at h
 unfold c3S
 refine g7 (l1 Tryz.isAgg21 I rfl) (a7 pLe ?_)
 refine g7 (Ld.g fun a => by exact (l1 Tryz.isAgg21 I rfl)) ?_
 simp only [C9]
 refine a7 (Pu.g fun a => by simp only [m6 a]; with_reducible exact pLe) ?_
 refine a7 (I0 _ _) ?_
 exact hR _ H _ _ I ⟨((decide (x0 ≤ x2)) && (decide (x2 ≤ x1))), rfl, rfl, h⟩
def p5 (y9 : Bool) (H : Hp) (K : Bool → Hp → Prop) : Prop :=
 (y9 = true →
 K true H) ∧
 (y9 = false →
 K false H)
def a4l (x0 : ByteArray) (H : Hp) (K : Bool → Hp → Prop) : Prop :=
 (x0 = ⟨#[118, 97, 114]⟩ →
 p5 (decide (x0 = ⟨#[118, 97, 114]⟩)) H K) ∧
 (¬ (x0 = ⟨#[118, 97, 114]⟩) →
 (x0 = ⟨#[97, 114, 114, 97, 121]⟩ →
 p5 (decide (x0 = ⟨#[97, 114, 114, 97, 121]⟩)) H K) ∧
 (¬ (x0 = ⟨#[97, 114, 114, 97, 121]⟩) →
 (x0 = ⟨#[105, 102]⟩ →
 p5 (decide (x0 = ⟨#[105, 102]⟩)) H K) ∧
 (¬ (x0 = ⟨#[105, 102]⟩) →
 (x0 = ⟨#[101, 108, 115, 101]⟩ →
 p5 (decide (x0 = ⟨#[101, 108, 115, 101]⟩)) H K) ∧
 (¬ (x0 = ⟨#[101, 108, 115, 101]⟩) →
 (x0 = ⟨#[119, 104, 105, 108, 101]⟩ →
 p5 (decide (x0 = ⟨#[119, 104, 105, 108, 101]⟩)) H K) ∧
 (¬ (x0 = ⟨#[119, 104, 105, 108, 101]⟩) →
 (x0 = ⟨#[97, 115, 115, 101, 114, 116]⟩ →
 p5 (decide (x0 = ⟨#[97, 115, 115, 101, 114, 116]⟩)) H K) ∧
 (¬ (x0 = ⟨#[97, 115, 115, 101, 114, 116]⟩) →
 (x0 = ⟨#[97, 115, 115, 117, 109, 101]⟩ →
 p5 (decide (x0 = ⟨#[97, 115, 115, 117, 109, 101]⟩)) H K) ∧
 (¬ (x0 = ⟨#[97, 115, 115, 117, 109, 101]⟩) →
 (x0 = ⟨#[115, 107, 105, 112]⟩ →
 p5 (decide (x0 = ⟨#[115, 107, 105, 112]⟩)) H K) ∧
 (¬ (x0 = ⟨#[115, 107, 105, 112]⟩) →
 (x0 = ⟨#[105, 110, 112, 117, 116]⟩ →
 p5 (decide (x0 = ⟨#[105, 110, 112, 117, 116]⟩)) H K) ∧
 (¬ (x0 = ⟨#[105, 110, 112, 117, 116]⟩) →
 (x0 = ⟨#[116, 114, 117, 101]⟩ →
 p5 (decide (x0 = ⟨#[116, 114, 117, 101]⟩)) H K) ∧
 (¬ (x0 = ⟨#[116, 114, 117, 101]⟩) →
 p5 (decide (x0 = ⟨#[102, 97, 108, 115, 101]⟩)) H K))))))))))
theorem a9K (x0) {H K} (h : a4l x0 H K) : Y9 x0 H K := by
 refine Ct.of fun w0 w ps0 H0 R E I hR => c1j ?_
 unfold a4l at h
 unfold c3W
 have hj1 : ∀ (y9 : Bool) H w (_ : Inv w0 ps0 H0 H [] w) (_ : p5 y9 H K), b1H (vB y9) w R E := by
  intro y9 H w I h
  unfold b1H
  intro _
  unfold p5 at h
  refine m8 h (fun _ h => ?_) (fun _ h => ?_)
  ·exact hR _ H _ _ I ⟨true, rfl, rfl, h⟩
  ·exact hR _ H _ _ I ⟨false, rfl, rfl, h⟩
 refine u7 fun j1 hx1 => ?_
 refine a7 (R5 _ _ _ _ _) ?_
 refine j9 h (fun _ h => ?_) (fun _ h => ?_)
 ·exact hx1 _ _ (hj1 (decide (x0 = ⟨#[118, 97, 114]⟩)) H _ I h)
 ·refine a7 (R5 _ _ _ _ _) ?_
  refine j9 h (fun _ h => ?_) (fun _ h => ?_)
  ·exact hx1 _ _ (hj1 (decide (x0 = ⟨#[97, 114, 114, 97, 121]⟩)) H _ I h)
  ·refine a7 (R5 _ _ _ _ _) ?_
   refine j9 h (fun _ h => ?_) (fun _ h => ?_)
   ·exact hx1 _ _ (hj1 (decide (x0 = ⟨#[105, 102]⟩)) H _ I h)
   ·refine a7 (R5 _ _ _ _ _) ?_
    refine j9 h (fun _ h => ?_) (fun _ h => ?_)
    ·exact hx1 _ _ (hj1 (decide (x0 = ⟨#[101, 108, 115, 101]⟩)) H _ I h)
    ·refine a7 (R5 _ _ _ _ _) ?_
     refine j9 h (fun _ h => ?_) (fun _ h => ?_)
     ·exact hx1 _ _ (hj1 (decide (x0 = ⟨#[119, 104, 105, 108, 101]⟩)) H _ I h)
     ·refine a7 (R5 _ _ _ _ _) ?_
      refine j9 h (fun _ h => ?_) (fun _ h => ?_)
      ·exact hx1 _ _ (hj1 (decide (x0 = ⟨#[97, 115, 115, 101, 114, 116]⟩)) H _ I h)
      ·refine a7 (R5 _ _ _ _ _) ?_
       refine j9 h (fun _ h => ?_) (fun _ h => ?_)
       ·exact hx1 _ _ (hj1 (decide (x0 = ⟨#[97, 115, 115, 117, 109, 101]⟩)) H _ I h)
       ·refine a7 (R5 _ _ _ _ _) ?_
        refine j9 h (fun _ h => ?_) (fun _ h => ?_)
        ·exact hx1 _ _ (hj1 (decide (x0 = ⟨#[115, 107, 105, 112]⟩)) H _ I h)
        ·refine a7 (R5 _ _ _ _ _) ?_
         refine j9 h (fun _ h => ?_) (fun _ h => ?_)
         ·exact hx1 _ _ (hj1 (decide (x0 = ⟨#[105, 110, 112, 117, 116]⟩)) H _ I h)
         ·refine a7 (R5 _ _ _ _ _) ?_
          refine j9 h (fun _ h => ?_) (fun _ h => ?_)
          ·exact hx1 _ _ (hj1 (decide (x0 = ⟨#[116, 114, 117, 101]⟩)) H _ I h)
          ·refine a7 (R5 _ _ _ _ _) ?_
           exact hx1 _ _ (hj1 (decide (x0 = ⟨#[102, 97, 108, 115, 101]⟩)) H _ I h)
def S2 (H : Hp) (K : Int → Hp → Prop) : Prop :=
 K (-1) H
def S3 (c5F : (List ByteArray)) (a3H : ByteArray) (v6 : Int) (A5 : Int) (H : Hp) (n2 : Int → Hp → Prop) (K : Int → Hp → Prop) : Prop :=
 (A5 < v6 →
 (0 : Int) ≤ A5 ∧ ∃ a : ByteArray, (c5F)[(A5 : Int).toNat]? = some a ∧
 (a3H = a →
 K A5 H) ∧
 (¬ (a3H = a) →
 n2 (IntKind.wrap .i64 (A5 + 1)) H)) ∧
 (¬ (A5 < v6) →
 S2 H K)
def a0h (x0 : (List ByteArray)) (x1 : ByteArray) (H : Hp) (K : Int → Hp → Prop) : Prop :=
 TL (0 : Int) H fun (s : Int) H n2 => S3 x0 x1 (x0.length : Int) s H n2 K
theorem a5B (x0 x1) {H K} (h : a0h x0 x1 H K) : Z5 x0 x1 H K := by
 intro sx0 Fx0 hx0
 refine Ct.of fun w0 w ps0 H0 R E I hR => c1m ?_
 unfold a0h at h
 unfold c3Z
 have hj1 : ∀ H w (_ : Inv w0 ps0 H0 H [Fx0] w) (_ : S2 H K), b1I w R E := by
  intro H w I h
  unfold b1I
  intro _
  unfold S2 at h
  exact hR _ H _ _ I ⟨(-1), rfl, rfl, h⟩
 refine u7 fun j1 hx1 => ?_
 refine a7 (b0v Tryz.underlying77 hx0) ?_
 obtain ⟨d, c, j, k⟩ := h
 refine E8 (J := fun n l w => ∃ (s : Int) (H : Hp) , n = c s ∧ l = [(vi s)] ∧ Inv w0 ps0 H0 H [Fx0] w ∧ d s H) ⟨_, 0, H, rfl, rfl, I, j⟩ ?_
 rintro p q w next2 ⟨A5, H, rfl, f, I, m⟩ hn2
 simp only [List.map_cons, List.map_nil, List.cons.injEq, and_true] at f
 have e8 := f
 simp only [e8]
 obtain ⟨n2, hm2, h⟩ : ∃ n2 : Int → Hp → Prop, (∀ s' H', n2 s' H' → d s' H' ∧ c s' < c A5) ∧ S3 x0 x1 (x0.length : Int) A5 H n2 K := ⟨_, fun _ _ h => h, k A5 H (fun s' H' => d s' H' ∧ c s' < c A5) m (fun _ _ a b => ⟨a, b⟩)⟩
 unfold b5D
 unfold S3 at h
 refine a7 pLs ?_
 refine j9 h (fun _ h => ?_) (fun _ h => ?_)
 ·obtain ⟨g, o, e, h⟩ := h
  obtain ⟨r, t, i, u⟩ := hx0.addr e
  refine a7 (b3C i _ _ _ _ g (hx0.lt g e)) (g7 (ld1 (v := (Value.string o)) Tryz.isAgg9 (hx0.atW I i e)) (a7 (R5 _ _ _ _ _) ?_))
  refine j9 h (fun _ h => ?_) (fun _ h => ?_)
  ·exact hR _ H _ _ I ⟨A5, rfl, rfl, h⟩
  ·refine a7 pAd ?_
   exact hn2 _ _ _ (hm2 _ _ h).2 ⟨(IntKind.wrap .i64 (A5 + 1)), H, rfl, rfl, I, (hm2 _ _ h).1⟩
 ·exact hx1 _ _ (hj1 H _ I h)
def X6 (x0 : (List ByteArray)) (x1 : ByteArray) (H : Hp) (K : Bool → Hp → Prop) : Prop :=
 Z5 x0 x1 H (fun a b =>
 K (decide (0 ≤ a)) b)
theorem a4T (x0 x1) {H K} (h : X6 x0 x1 H K) : M1 x0 x1 H K := by
 intro sx0 Fx0 hx0
 refine Ct.of fun w0 w ps0 H0 R E I hR => c1e ?_
 unfold X6 at h
 unfold c3R
 refine g8 Tryz.call161 (h sx0 Fx0 hx0) I ?_
 rintro _ a _ d b _ _ ⟨c, rfl, rfl, h⟩
 refine a7 pGe ?_
 exact hR _ a _ _ b ⟨(decide (0 ≤ c)), rfl, rfl, h⟩
def K6 (d : Int) (e : Int) (f : Int) (g : Bool) (i : Bool) (j : (List ByteArray)) (H : Hp) (K : k7 → Hp → Prop) : Prop :=
 ∀ (a : Sl) (b : Hp), Hle H b → SlH b 1 F7 a j → a.n ≤ a.c →
 K (k7.mk d e f g i a) b
def a2T (x0 : Sl) (H : Hp) (K : k7 → Hp → Prop) : Prop :=
 V7 x0 1 (k7.mk 0 0 0 false false (Sl.mk none 0 0)) [] H (fun d a b c =>
 ((!d) = true →
 K6 a.fnodes a.fdepth a.fe a.fform a.fnamed b c K) ∧
 ((!d) = false →
 (a.fform = true →
 K6 a.fnodes a.fdepth 30 a.fform a.fnamed b c K) ∧
 (a.fform = false →
 (a.fnamed = true →
 K6 a.fnodes a.fdepth 31 a.fform a.fnamed b c K) ∧
 (a.fnamed = false →
 K6 a.fnodes a.fdepth a.fe a.fform a.fnamed b c K))))
theorem a8h (x0) {H K} (h : a2T x0 H K) : a1h x0 H K := by
 refine Ct.of fun w0 w ps0 H0 R E I hR => c3a ?_
 unfold a2T at h
 unfold F74
 refine a7 (b7u ) ?_
 refine Y0 I (cs := [(vi 0), (vi 0), (vi 0), (vB false), (vB false), (nS)]) rfl fun d aj y ak => ?_
 refine m7 y Tryz.zeroValue80 (cs := [(Value.pointer none)]) rfl fun c al z am => ?_
 refine g6 z Tryz.sizeOf80 (vs := [(Value.pointer (some ⟨d, 0, none⟩))]) (cs' := [(Value.pointer (some ⟨d, 0, none⟩))]) rfl rfl (nb rfl) rfl rfl fun an aa ao => ?_
 refine m7 aa Tryz.zeroValue169 (cs := [Value.nilFunc]) rfl fun f ap ab aq => ?_
 refine a7 (V6 _ _ _) ?_
 refine g6 ab Tryz.sizeOf169 (vs := [(Value.func (.func 118) #[] #[(Value.pointer (some ⟨c, 0, none⟩)), (Value.pointer (some ⟨f, 0, none⟩))])]) (cs' := [(Value.func (.func 118) #[] #[(Value.pointer (some ⟨c, 0, none⟩)), (Value.pointer (some ⟨f, 0, none⟩))])]) rfl rfl (nb rfl) rfl rfl fun ar u au => ?_
 have hj1 : ∀ (j : Int) (k : Int) (l : Int) (m : Bool) (n : Bool) (s : (List ByteArray)) (i : Sl) (t : Frag) H w (_ : RowL 9 1 F7 i s t) (_ : Inv w0 ps0 H0 H [bx c 80 [(Value.pointer (some ⟨d, 0, none⟩))], bx d 79 [(vi j), (vi k), (vi l), (vB m), (vB n), (vs i)], bx f 169 [(Value.func (.func 118) #[] #[(Value.pointer (some ⟨c, 0, none⟩)), (Value.pointer (some ⟨f, 0, none⟩))])], t] w) (_ : K6 j k l m n s H K), b3O (Value.pointer (some ⟨c, 0, none⟩)) w R E := by
  intro j k l m n s i t H w ac I h
  unfold b3O
  intro _
  unfold K6 at h
  refine g7 (l1 Tryz.isAgg80 I rfl) ?_
  obtain ⟨v, ad, ae, af, ag⟩ := Inv.freezeC (I.bring 3) ac (by decide)
  replace h := h i v ae af ag
  exact hR _ v _ _ (ad.drop.bring 1).drop ⟨(k7.mk j k l m n i), d, rfl, rfl, h⟩
 refine u7 fun j1 hx1 => ?_
 refine g7 (l1 Tryz.isAgg169 u rfl) ?_
 refine a4V (cap := [(Value.pointer (some ⟨c, 0, none⟩)), (Value.pointer (some ⟨f, 0, none⟩))]) Tryz.call118 (h c d f (Sl.mk none 0 0) ([]) (RowL.nil (e := 9) a5K a5L)) ((((u.nil.bring 1).bring 1).bring 3).bring 3) ?_
 rintro _ o _ av b _ _ ⟨aw, a, p, g, q, rfl, rfl, r, h⟩
 refine a7 (T8 _) ?_
 refine m8 h (fun _ h => ?_) (fun _ h => ?_)
 ·exact hx1 _ _ (hj1 a.fnodes a.fdepth a.fe a.fform a.fnamed p g q o _ r ((((b.bring 2).bring 3).bring 3).bring 3) h)
 ·refine g7 (l1 Tryz.isAgg80 b rfl) (a7 (q7 _) (a7 a7V (g7 (l1 Tryz.isAgg4 (b.bring 1) rfl) ?_)))
  refine m8 h (fun _ h => ?_) (fun _ h => ?_)
  ·refine g7 (l1 Tryz.isAgg80 b rfl) (a7 (q7 _) (a7 a3T ?_))
   refine g6 (b.bring 1) Tryz.sizeOf29 (vs := [(vi 30)]) (cs' := [(vi a.fnodes), (vi a.fdepth), (vi 30), (vB a.fform), (vB a.fnamed), (vs g)]) rfl rfl (nb rfl) rfl rfl fun ax ah ay => ?_
   exact hx1 _ _ (hj1 a.fnodes a.fdepth 30 a.fform a.fnamed p g q o _ r ((((ah.bring 2).bring 3).bring 2).bring 3) h)
  ·refine g7 (l1 Tryz.isAgg80 b rfl) (a7 (q7 _) (a7 a7W (g7 (l1 Tryz.isAgg4 (b.bring 1) rfl) ?_)))
   refine m8 h (fun _ h => ?_) (fun _ h => ?_)
   ·refine g7 (l1 Tryz.isAgg80 b rfl) (a7 (q7 _) (a7 a3T ?_))
    refine g6 (b.bring 1) Tryz.sizeOf29 (vs := [(vi 31)]) (cs' := [(vi a.fnodes), (vi a.fdepth), (vi 31), (vB a.fform), (vB a.fnamed), (vs g)]) rfl rfl (nb rfl) rfl rfl fun az ai ba => ?_
    exact hx1 _ _ (hj1 a.fnodes a.fdepth 31 a.fform a.fnamed p g q o _ r ((((ai.bring 2).bring 3).bring 2).bring 3) h)
   ·exact hx1 _ _ (hj1 a.fnodes a.fdepth a.fe a.fform a.fnamed p g q o _ r ((((b.bring 2).bring 3).bring 3).bring 3) h)
def a4m (x0 : l7) (H : Hp) (K : k7 → Hp → Prop) : Prop :=
 G0 x0.a3z H (fun d e =>
 y6 x0.a2K e (fun f g =>
 ∀ (a : Sl) (b : Hp), Hle g b → SlH b 1 csl a [d, f] → a.n ≤ a.c →
 C0 a b (fun i j =>
 a1h i j (fun k l =>
 K k l))))
theorem a9L (x0) {H K} (h : a4m x0 H K) : a4h x0 H K := by
 refine Ct.of fun w0 w ps0 H0 R E I hR => c2J ?_
 unfold a4m at h
 unfold F32
 refine Y0 I (cs := (p7 x0)) rfl fun z aa b ab => ?_
 refine U3 b fun ac a => ?_
 refine o8 a6r ?_
 refine o8 a3R ?_
 refine A0 (l1 Tryz.isAgg23 a rfl) ?_
 refine A0 (l1 Tryz.isAgg24 a rfl) ?_
 refine g8 Tryz.call76 h a ?_
 rintro _ _ _ ad d _ f ⟨g, rfl, rfl, h⟩
 refine ⟨(f _ a.lt1 (Inv.Y1 (Fi := []) a)), ?_⟩
 refine g8 Tryz.call78 h d ?_
 rintro _ _ _ ae i _ _ ⟨j, rfl, rfl, h⟩
 refine U4 (e := 128) (c := csl) (xs := [g, j]) i (b3y _ _ _ _ _ _) rfl rfl b3c b3d (nb rfl) fun k af ag l m ah => ?_
 obtain ⟨n, o, p, q, r⟩ := Inv.freezeC m l (by decide)
 replace h := h k n p q r
 refine g8 Tryz.call75 h o ?_
 rintro _ _ _ ai s _ _ ⟨aj, rfl, rfl, h⟩
 refine g8 Tryz.call74 h s ?_
 rintro _ t _ ak u _ _ ⟨v, y, rfl, rfl, h⟩
 exact hR _ t _ _ (u.bring 1).drop ⟨v, y, rfl, rfl, h⟩
def T2 [PanQ] (a9Z : Int) (s8 : a8) (H : Hp) (K : Hp → Prop) : Prop :=
 (40 < a9Z →
 u9 s8 H (fun a b =>
 PanQ.q (Value.iface 98 (Value.agg #[(vi a.fAt.v7), (vi a.fAt.C8), (vi 41)])))) ∧
 (¬ (40 < a9Z) →
 K H)
def a2G [PanQ] (x0 : a8) (x1 : Int) (x2 : Bool) (H : Hp) (K : Hp → Prop) : Prop :=
 ((!x2) = true →
 C3 x0 H (fun a =>
 T2 x1 x0 a K)) ∧
 ((!x2) = false →
 T2 x1 x0 H K)
theorem a6b [PanQ] (x0 : a8) (x1 : Int) (x2 : Bool) {H : Hp} {K : Hp → Prop} (h : a2G x0 x1 x2 H K) : A9 x0 x1 x2 H K := by
 intro g0
 refine Ct.ofE fun w0 w ps0 H0 R E I hR hE => c2V ?_
 unfold a2G at h
 unfold F55
 have hj1 : ∀ H w (_ : Inv w0 ps0 H0 H [bx g0 101 (b6 x0)] w) (_ : T2 x1 x0 H K), b3K (Value.pointer (some ⟨g0, 0, none⟩)) (vi x1) w R E := by
  intro H w I h
  unfold b3K
  intro _
  unfold T2 at h
  refine a7 pGt ?_
  refine j9 h (fun _ h => ?_) (fun _ h => ?_)
  ·refine g8 Tryz.call51 (h g0) I ?_
   rintro _ _ _ d a _ _ ⟨e, rfl, rfl, h⟩
   refine a7 a8L (a7 (a8v _ _ _) (a7 (a9N _ _ _) ?_))
   exact a4D (hE _ _ _ _ a ⟨_, rfl, h⟩)
  ·exact hR _ H _ _ I ⟨rfl, rfl, h⟩
 refine u7 fun j1 hx1 => ?_
 refine a7 (T8 _) ?_
 refine m8 h (fun _ h => ?_) (fun _ h => ?_)
 ·refine u6 hE Tryz.call52 (h g0) I ?_
  rintro _ b _ f c _ _ ⟨rfl, rfl, h⟩
  exact hx1 _ _ (hj1 b _ c h)
 ·exact hx1 _ _ (hj1 H _ I h)
def K8 [PanQ] (d : Int) (e : ByteArray) (f : Sl) (g : (List f8)) (i : Sl) (j : Sl) (a5f : a8) (k : b5) (l : g5) (H : Hp) (K : g5 → a8 → Hp → Prop) : Prop :=
 ∀ (a : Sl) (b : Hp), Hle H b → SlH b 4 g9 a g → a.n ≤ a.c →
 K (g5.mk d e f a i j) a5f b
def D3 [PanQ] (f : Int) (g : ByteArray) (i : (List b7)) (j : (List f8)) (k : Sl) (l : Sl) (s8 : a8) (p : b5) (q : g5) (H : Hp) (K : g5 → a8 → Hp → Prop) : Prop :=
 A4 s8 ⟨#[59]⟩ H (fun m o =>
 ∀ (a : Sl) (d : Hp), Hle o d → SlH d 4 c8 a i → a.n ≤ a.c →
 ∀ (b : Sl) (e : Hp), Hle d e → SlH e 4 g9 b j → b.n ≤ b.c →
 K (g5.mk f g a b k l) m e)
def K9 [PanQ] (c7d : Int) (c : Int) (d : ByteArray) (a : (List b7)) (e : (List f8)) (f : Sl) (g : Sl) (a3v : a8) (i : b5) (j : g5) (H : Hp) (K : g5 → a8 → Hp → Prop) : Prop :=
 A4 a3v ⟨#[61]⟩ H (fun k l =>
 K3 k c7d l (fun b m n =>
 (a.length + ([b] : List b7).length) * 57 ≤ 140737488355328 ∧
 D3 c d (a ++ [b]) e f g m i j n K))
def a0Y [PanQ] (x0 : a8) (x1 : Int) (H : Hp) (K : g5 → a8 → Hp → Prop) : Prop :=
 M9 x0 H (fun a b d =>
 (a.f7 = 1 →
 r8 b ⟨#[91]⟩ d (fun g i j =>
 (g = true →
 Q9 i x1 ⟨#[93]⟩ j (fun k r s =>
 (([] : List b7).length + ([k] : List b7).length) * 57 ≤ 140737488355328 ∧
 K9 x1 2 a.A8 [k] [] (Sl.mk none 0 0) (Sl.mk none 0 0) r a (g5.mk 0 ⟨#[]⟩ (Sl.mk none 0 0) (Sl.mk none 0 0) (Sl.mk none 0 0) (Sl.mk none 0 0)) s K)) ∧
 (g = false →
 K9 x1 1 a.A8 [] [] (Sl.mk none 0 0) (Sl.mk none 0 0) i a (g5.mk 0 ⟨#[]⟩ (Sl.mk none 0 0) (Sl.mk none 0 0) (Sl.mk none 0 0) (Sl.mk none 0 0)) j K))) ∧
 (¬ (a.f7 = 1) →
 (a.A8 = ⟨#[105, 102]⟩ →
 K4 b x1 d (fun l t u =>
 R0 t x1 u (fun m v y =>
 r8 v ⟨#[101, 108, 115, 101]⟩ y (fun o p q =>
 (o = true →
 R0 p x1 q (fun z aa ab =>
 K8 3 ⟨#[]⟩ (Sl.mk none 0 0) [l] m z aa a (g5.mk 0 ⟨#[]⟩ (Sl.mk none 0 0) (Sl.mk none 0 0) (Sl.mk none 0 0) (Sl.mk none 0 0)) ab K)) ∧
 (o = false →
 K8 3 ⟨#[]⟩ (Sl.mk none 0 0) [l] m (Sl.mk none 0 0) p a (g5.mk 0 ⟨#[]⟩ (Sl.mk none 0 0) (Sl.mk none 0 0) (Sl.mk none 0 0) (Sl.mk none 0 0)) q K))))) ∧
 (¬ (a.A8 = ⟨#[105, 102]⟩) →
 (a.A8 = ⟨#[119, 104, 105, 108, 101]⟩ →
 K4 b x1 d (fun ac ad ae =>
 R0 ad x1 ae (fun af ag ah =>
 ∀ (e : Sl) (f : Hp), Hle ah f → SlH f 4 g9 e [ac] → e.n ≤ e.c →
 K (g5.mk 4 ⟨#[]⟩ (Sl.mk none 0 0) e af (Sl.mk none 0 0)) ag f))) ∧
 (¬ (a.A8 = ⟨#[119, 104, 105, 108, 101]⟩) →
 (a.A8 = ⟨#[97, 115, 115, 101, 114, 116]⟩ →
 K4 b x1 d (fun ai aj ak =>
 D3 5 ⟨#[]⟩ [] [ai] (Sl.mk none 0 0) (Sl.mk none 0 0) aj a (g5.mk 0 ⟨#[]⟩ (Sl.mk none 0 0) (Sl.mk none 0 0) (Sl.mk none 0 0) (Sl.mk none 0 0)) ak K)) ∧
 (¬ (a.A8 = ⟨#[97, 115, 115, 101, 114, 116]⟩) →
 (a.A8 = ⟨#[97, 115, 115, 117, 109, 101]⟩ →
 K4 b x1 d (fun al am an =>
 D3 6 ⟨#[]⟩ [] [al] (Sl.mk none 0 0) (Sl.mk none 0 0) am a (g5.mk 0 ⟨#[]⟩ (Sl.mk none 0 0) (Sl.mk none 0 0) (Sl.mk none 0 0) (Sl.mk none 0 0)) an K)) ∧
 (¬ (a.A8 = ⟨#[97, 115, 115, 117, 109, 101]⟩) →
 D3 7 ⟨#[]⟩ [] [] (Sl.mk none 0 0) (Sl.mk none 0 0) b a (g5.mk 0 ⟨#[]⟩ (Sl.mk none 0 0) (Sl.mk none 0 0) (Sl.mk none 0 0) (Sl.mk none 0 0)) d K))))))
theorem a6o [PanQ] (x0 : a8) (x1 : Int) {H : Hp} {K : g5 → a8 → Hp → Prop} (h : a0Y x0 x1 H K) : R8 x0 x1 H K := by
 intro g0
 refine Ct.ofE fun w0 w ps0 H0 R E I hR hE => c2X ?_
 unfold a0Y at h
 unfold F57
 refine m7 I Tryz.zeroValue56 (cs := [(vi 0), (eS), (nS), (nS), (nS), (nS)]) rfl fun z fp bw fq => ?_
 refine m7 bw Tryz.zeroValue56 (cs := [(vi 0), (eS), (nS), (nS), (nS), (nS)]) rfl fun aa fs bz ft => ?_
 refine u6 hE Tryz.call104 (h g0) (bz.bring 2) ?_
 rintro _ ca _ fu cb _ _ ⟨b, cc, rfl, rfl, h⟩
 refine m7 cb Tryz.zeroValue103 (cs := [(vi 0), (eS), (vi 0), (vi 0), (vi 0)]) rfl fun an fv cd fw => ?_
 refine g6 cd Tryz.sizeOf103 (vs := (d8 b)) (cs' := (d8 b)) rfl rfl (nb rfl) rfl rfl fun fx d fy => ?_
 have hj1 : ∀ (k : Int) (l : ByteArray) (ao : (List b7)) (ap : (List f8)) (m : Sl) (p : Sl) (s8 : a8) (g : Sl) (aq : Frag) (i : Sl) (ar : Frag) H w (_ : RowL 40 4 c8 g ao aq) (_ : RowL 49 4 g9 i ap ar) (_ : Inv w0 ps0 H0 H [bx aa 56 [(vi k), (Value.string l), (vs g), (vs i), (vs m), (vs p)], bx g0 101 (b6 s8), bx an 103 (d8 b), bx z 56 [(vi (g5.mk 0 ⟨#[]⟩ (Sl.mk none 0 0) (Sl.mk none 0 0) (Sl.mk none 0 0) (Sl.mk none 0 0)).f7), (Value.string (g5.mk 0 ⟨#[]⟩ (Sl.mk none 0 0) (Sl.mk none 0 0) (Sl.mk none 0 0) (Sl.mk none 0 0)).A7), (Value.slice (g5.mk 0 ⟨#[]⟩ (Sl.mk none 0 0) (Sl.mk none 0 0) (Sl.mk none 0 0) (Sl.mk none 0 0)).l8.a (g5.mk 0 ⟨#[]⟩ (Sl.mk none 0 0) (Sl.mk none 0 0) (Sl.mk none 0 0) (Sl.mk none 0 0)).l8.n (g5.mk 0 ⟨#[]⟩ (Sl.mk none 0 0) (Sl.mk none 0 0) (Sl.mk none 0 0) (Sl.mk none 0 0)).l8.c), (Value.slice (g5.mk 0 ⟨#[]⟩ (Sl.mk none 0 0) (Sl.mk none 0 0) (Sl.mk none 0 0) (Sl.mk none 0 0)).z7.a (g5.mk 0 ⟨#[]⟩ (Sl.mk none 0 0) (Sl.mk none 0 0) (Sl.mk none 0 0) (Sl.mk none 0 0)).z7.n (g5.mk 0 ⟨#[]⟩ (Sl.mk none 0 0) (Sl.mk none 0 0) (Sl.mk none 0 0) (Sl.mk none 0 0)).z7.c), (Value.slice (g5.mk 0 ⟨#[]⟩ (Sl.mk none 0 0) (Sl.mk none 0 0) (Sl.mk none 0 0) (Sl.mk none 0 0)).M3.a (g5.mk 0 ⟨#[]⟩ (Sl.mk none 0 0) (Sl.mk none 0 0) (Sl.mk none 0 0) (Sl.mk none 0 0)).M3.n (g5.mk 0 ⟨#[]⟩ (Sl.mk none 0 0) (Sl.mk none 0 0) (Sl.mk none 0 0) (Sl.mk none 0 0)).M3.c), (Value.slice (g5.mk 0 ⟨#[]⟩ (Sl.mk none 0 0) (Sl.mk none 0 0) (Sl.mk none 0 0) (Sl.mk none 0 0)).L6.a (g5.mk 0 ⟨#[]⟩ (Sl.mk none 0 0) (Sl.mk none 0 0) (Sl.mk none 0 0) (Sl.mk none 0 0)).L6.n (g5.mk 0 ⟨#[]⟩ (Sl.mk none 0 0) (Sl.mk none 0 0) (Sl.mk none 0 0) (Sl.mk none 0 0)).L6.c)], aq, ar] w) (_ : D3 k l ao ap m p s8 b (g5.mk 0 ⟨#[]⟩ (Sl.mk none 0 0) (Sl.mk none 0 0) (Sl.mk none 0 0) (Sl.mk none 0 0)) H K), b3L (Value.pointer (some ⟨g0, 0, none⟩)) (Value.pointer (some ⟨z, 0, none⟩)) (Value.pointer (some ⟨aa, 0, none⟩)) w R E := by
  intro k l ao ap m p s8 g aq i ar H w ce cf I h
  unfold b3L
  intro _
  unfold D3 at h
  refine u6 hE Tryz.call103 (h g0) (I.bring 1) ?_
  rintro _ _ _ fz bb _ _ ⟨cg, rfl, rfl, h⟩
  refine g7 (ldA Tryz.isAgg56 Tryz.sizeOf56 rfl ((bb.bring 1).at1 (o := 0) (vs := [(vi k), (Value.string l), (vs g), (vs i), (vs m), (vs p)]) (nb rfl) rfl)) ?_
  refine g6 (bb.bring 3) Tryz.sizeOf56 (vs := [(vi k), (Value.string l), (vs g), (vs i), (vs m), (vs p)]) (cs' := [(vi k), (Value.string l), (vs g), (vs i), (vs m), (vs p)]) rfl rfl (nb rfl) rfl rfl fun ga bc gb => ?_
  refine u1 Tryz.isAgg56 Tryz.sizeOf56 rfl (bc.at1 (o := 0) (vs := [(vi k), (Value.string l), (vs g), (vs i), (vs m), (vs p)]) (nb rfl) rfl) ?_
  obtain ⟨ch, ci, cj, ck, cl⟩ := Inv.freezeC (bc.bring 4) ce (by decide)
  replace h := h g ch cj ck cl
  obtain ⟨bd, cm, cn, co, cp⟩ := Inv.freezeC (ci.bring 4) cf (by decide)
  replace h := h i bd cn co cp
  exact hR _ bd _ _ ((cm.drop.bring 1).drop.bring 1).drop ⟨(g5.mk k l g i m p), cg, rfl, rfl, h⟩
 refine u7 fun j1 hx1 => ?_
 refine a7 a0m (g7 (l1 Tryz.isAgg3 d rfl) (a7 pEq ?_))
 refine j9 h (fun _ h => ?_) (fun _ h => ?_)
 ·refine U3 d fun gc au => ?_
  refine o8 Q6 ?_
  refine o8 a0o ?_
  refine A0 (l1 Tryz.isAgg9 au rfl) ?_
  refine g6 (au.bring 2) Tryz.sizeOf3 (vs := [(vi 1)]) (cs' := [(vi 1), (eS), (nS), (nS), (nS), (nS)]) rfl rfl (nb rfl) rfl rfl fun gd cq cr => ?_
  refine ⟨(cr _ (Inv.c5Z (au.bring 2))), ?_⟩
  refine o8 a4Z ?_
  refine g6 cq Tryz.sizeOf9 (vs := [(Value.string b.A8)]) (cs' := [(vi 1), (Value.string b.A8), (nS), (nS), (nS), (nS)]) rfl rfl (nb rfl) rfl rfl fun ge ct gf => ?_
  have hj2 : ∀ (ab : Int) (ac : ByteArray) (ad : (List b7)) (ai : (List f8)) (ae : Sl) (af : Sl) (a3v : a8) (aj : Sl) (av : Frag) (ag : Sl) (ak : Frag) H w (_ : RowL 40 4 c8 aj ad av) (_ : RowL 49 4 g9 ag ai ak) (_ : Inv w0 ps0 H0 H [bx aa 56 [(vi ab), (Value.string ac), (vs aj), (vs ag), (vs ae), (vs af)], bx g0 101 (b6 a3v), bx an 103 (d8 b), bx z 56 [(vi (g5.mk 0 ⟨#[]⟩ (Sl.mk none 0 0) (Sl.mk none 0 0) (Sl.mk none 0 0) (Sl.mk none 0 0)).f7), (Value.string (g5.mk 0 ⟨#[]⟩ (Sl.mk none 0 0) (Sl.mk none 0 0) (Sl.mk none 0 0) (Sl.mk none 0 0)).A7), (Value.slice (g5.mk 0 ⟨#[]⟩ (Sl.mk none 0 0) (Sl.mk none 0 0) (Sl.mk none 0 0) (Sl.mk none 0 0)).l8.a (g5.mk 0 ⟨#[]⟩ (Sl.mk none 0 0) (Sl.mk none 0 0) (Sl.mk none 0 0) (Sl.mk none 0 0)).l8.n (g5.mk 0 ⟨#[]⟩ (Sl.mk none 0 0) (Sl.mk none 0 0) (Sl.mk none 0 0) (Sl.mk none 0 0)).l8.c), (Value.slice (g5.mk 0 ⟨#[]⟩ (Sl.mk none 0 0) (Sl.mk none 0 0) (Sl.mk none 0 0) (Sl.mk none 0 0)).z7.a (g5.mk 0 ⟨#[]⟩ (Sl.mk none 0 0) (Sl.mk none 0 0) (Sl.mk none 0 0) (Sl.mk none 0 0)).z7.n (g5.mk 0 ⟨#[]⟩ (Sl.mk none 0 0) (Sl.mk none 0 0) (Sl.mk none 0 0) (Sl.mk none 0 0)).z7.c), (Value.slice (g5.mk 0 ⟨#[]⟩ (Sl.mk none 0 0) (Sl.mk none 0 0) (Sl.mk none 0 0) (Sl.mk none 0 0)).M3.a (g5.mk 0 ⟨#[]⟩ (Sl.mk none 0 0) (Sl.mk none 0 0) (Sl.mk none 0 0) (Sl.mk none 0 0)).M3.n (g5.mk 0 ⟨#[]⟩ (Sl.mk none 0 0) (Sl.mk none 0 0) (Sl.mk none 0 0) (Sl.mk none 0 0)).M3.c), (Value.slice (g5.mk 0 ⟨#[]⟩ (Sl.mk none 0 0) (Sl.mk none 0 0) (Sl.mk none 0 0) (Sl.mk none 0 0)).L6.a (g5.mk 0 ⟨#[]⟩ (Sl.mk none 0 0) (Sl.mk none 0 0) (Sl.mk none 0 0) (Sl.mk none 0 0)).L6.n (g5.mk 0 ⟨#[]⟩ (Sl.mk none 0 0) (Sl.mk none 0 0) (Sl.mk none 0 0) (Sl.mk none 0 0)).L6.c)], av, ak] w) (_ : K9 x1 ab ac ad ai ae af a3v b (g5.mk 0 ⟨#[]⟩ (Sl.mk none 0 0) (Sl.mk none 0 0) (Sl.mk none 0 0) (Sl.mk none 0 0)) H K), b3M (Value.pointer (some ⟨g0, 0, none⟩)) (vi x1) (Value.pointer (some ⟨z, 0, none⟩)) (Value.pointer (some ⟨aa, 0, none⟩)) w j1 R E := by
   intro ab ac ad ai ae af a3v aj av ag ak H w cu cv I h
   unfold b3M
   intro _
   unfold K9 at h
   refine u6 hE Tryz.call103 (h g0) (I.bring 1) ?_
   rintro _ _ _ gg cw _ _ ⟨cx, rfl, rfl, h⟩
   refine U3 cw fun gh al => ?_
   refine o8 a2g ?_
   refine A0 (l1 Tryz.isAgg38 (al.bring 1) rfl) ?_
   refine u6 hE Tryz.call35 (h g0) al ?_
   rintro _ cy _ gi be _ cz ⟨bf, da, rfl, rfl, h⟩
   refine ⟨(cz _ (al.bring 1).lt1 (Inv.Y1 (Fi := [bx g0 101 (b6 cx)]) ((al.bring 1).bring 1))), ?_⟩
   refine U4 (e := 40) (c := c8) (xs := [bf]) be (a9h _ _ _ _ _ _) rfl rfl M6 M7 (nb rfl) fun gj gk gl db bg dc => ?_
   refine ⟨(dc _ (be.bring 1).lt1), ?_⟩
   obtain ⟨dd, h⟩ := h
   refine b7q (s := aj) (xs := ad) (bg.bring 5) cu (db.srcO ((bg.bring 5).bring 1)) dd fun aw de gm df dg gn => ?_
   refine o8 a2g ?_
   refine g6 ((dg.bring 1).drop.bring 2) Tryz.sizeOf38 (vs := [(vs aw)]) (cs' := [(vi ab), (Value.string ac), (vs aw), (vs ag), (vs ae), (vs af)]) rfl rfl (nb rfl) rfl rfl fun go dh gp => ?_
   exact hx1 _ _ (hj1 ab ac (ad ++ [bf]) ai ae af da aw de ag ak cy _ df cv ((((((dh.bring 5).bring 2).bring 5).bring 5).bring 5).bring 5) h)
  refine u7 fun j2 hx2 => ?_
  refine g8 Tryz.call105 (h g0) (ct.bring 2) ?_
  rintro _ di _ gq bh _ _ ⟨gr, bi, rfl, rfl, h⟩
  refine m8 h (fun _ h => ?_) (fun _ h => ?_)
  ·refine a7 a0o ?_
   refine g6 (bh.bring 1) Tryz.sizeOf3 (vs := [(vi 2)]) (cs' := [(vi 2), (Value.string b.A8), (nS), (nS), (nS), (nS)]) rfl rfl (nb rfl) rfl rfl fun gs dj gt => ?_
   refine U3 dj fun gu am => ?_
   refine o8 a2g ?_
   refine A0 (l1 Tryz.isAgg38 am rfl) ?_
   refine u6 hE Tryz.call106 (h g0) (am.bring 1) ?_
   rintro _ dk _ gv bj _ dl ⟨bk, dm, rfl, rfl, h⟩
   refine ⟨(dl _ am.lt1 (Inv.Y1 (Fi := [bx g0 101 (b6 bi)]) (am.bring 1))), ?_⟩
   refine U4 (e := 40) (c := c8) (xs := [bk]) bj (a9h _ _ _ _ _ _) rfl rfl M6 M7 (nb rfl) fun gw gx gy dn bl dp => ?_
   refine ⟨(dp _ (bj.bring 1).lt1), ?_⟩
   obtain ⟨dq, h⟩ := h
   refine b7q (s := ⟨none, 0, 0⟩) (xs := []) bl.nil (RowL.nil M6 M7) (dn.srcO (bl.nil.bring 1)) dq fun ax dr gz bm ds ha => ?_
   simp only [List.nil_append] at bm
   refine o8 a2g ?_
   refine g6 ((ds.bring 1).drop.bring 2) Tryz.sizeOf38 (vs := [(vs ax)]) (cs' := [(vi 2), (Value.string b.A8), (vs ax), (nS), (nS), (nS)]) rfl rfl (nb rfl) rfl rfl fun hb dt hc => ?_
   exact hx2 _ _ (hj2 2 b.A8 [bk] [] (Sl.mk none 0 0) (Sl.mk none 0 0) dm ax dr (Sl.mk none 0 0) [] dk _ bm (RowL.nil R6 R7) (((((dt.nil.bring 2).bring 5).bring 5).bring 5).bring 5) h)
  ·exact hx2 _ _ (hj2 1 b.A8 [] [] (Sl.mk none 0 0) (Sl.mk none 0 0) bi (Sl.mk none 0 0) [] (Sl.mk none 0 0) [] di _ (RowL.nil M6 M7) (RowL.nil R6 R7) (((((bh.nil.nil.bring 1).bring 5).bring 5).bring 4).bring 5) h)
 ·refine a7 Q6 (g7 (l1 Tryz.isAgg9 d rfl) (a7 (R5 _ _ _ _ _) ?_))
  refine j9 h (fun _ h => ?_) (fun _ h => ?_)
  ·refine u6 hE Tryz.call41 (h g0) (d.bring 1) ?_
   rintro _ _ _ hd du _ _ ⟨bn, he, rfl, rfl, h⟩
   refine U4 (e := 49) (c := g9) (xs := [bn]) du (a7B _ _ _ _ _ _ _ _) rfl rfl R6 R7 (nb rfl) fun f dv hf dw dx hg => ?_
   refine a7 a0o ?_
   refine g6 (dx.bring 3) Tryz.sizeOf3 (vs := [(vi 3)]) (cs' := [(vi 3), (eS), (nS), (nS), (nS), (nS)]) rfl rfl (nb rfl) rfl rfl fun hh dy hi => ?_
   refine a7 a3U ?_
   refine g6 dy Tryz.sizeOf47 (vs := [(vs f)]) (cs' := [(vi 3), (eS), (nS), (vs f), (nS), (nS)]) rfl rfl (nb rfl) rfl rfl fun hj dz hk => ?_
   refine u6 hE Tryz.call107 (h g0) (dz.bring 2) ?_
   rintro _ _ _ hl ea _ _ ⟨ah, hm, rfl, rfl, h⟩
   refine a7 a6t ?_
   refine g6 (ea.bring 1) Tryz.sizeOf24 (vs := [(vs ah)]) (cs' := [(vi 3), (eS), (nS), (vs f), (vs ah), (nS)]) rfl rfl (nb rfl) rfl rfl fun hn eb ho => ?_
   have hj3 : ∀ (q : Int) (r : ByteArray) (t : Sl) (u : Sl) (v : Sl) (a5f : a8) H w (_ : Inv w0 ps0 H0 H [bx aa 56 [(vi q), (Value.string r), (vs t), (vs f), (vs u), (vs v)], bx g0 101 (b6 a5f), bx an 103 (d8 b), bx z 56 [(vi (g5.mk 0 ⟨#[]⟩ (Sl.mk none 0 0) (Sl.mk none 0 0) (Sl.mk none 0 0) (Sl.mk none 0 0)).f7), (Value.string (g5.mk 0 ⟨#[]⟩ (Sl.mk none 0 0) (Sl.mk none 0 0) (Sl.mk none 0 0) (Sl.mk none 0 0)).A7), (Value.slice (g5.mk 0 ⟨#[]⟩ (Sl.mk none 0 0) (Sl.mk none 0 0) (Sl.mk none 0 0) (Sl.mk none 0 0)).l8.a (g5.mk 0 ⟨#[]⟩ (Sl.mk none 0 0) (Sl.mk none 0 0) (Sl.mk none 0 0) (Sl.mk none 0 0)).l8.n (g5.mk 0 ⟨#[]⟩ (Sl.mk none 0 0) (Sl.mk none 0 0) (Sl.mk none 0 0) (Sl.mk none 0 0)).l8.c), (Value.slice (g5.mk 0 ⟨#[]⟩ (Sl.mk none 0 0) (Sl.mk none 0 0) (Sl.mk none 0 0) (Sl.mk none 0 0)).z7.a (g5.mk 0 ⟨#[]⟩ (Sl.mk none 0 0) (Sl.mk none 0 0) (Sl.mk none 0 0) (Sl.mk none 0 0)).z7.n (g5.mk 0 ⟨#[]⟩ (Sl.mk none 0 0) (Sl.mk none 0 0) (Sl.mk none 0 0) (Sl.mk none 0 0)).z7.c), (Value.slice (g5.mk 0 ⟨#[]⟩ (Sl.mk none 0 0) (Sl.mk none 0 0) (Sl.mk none 0 0) (Sl.mk none 0 0)).M3.a (g5.mk 0 ⟨#[]⟩ (Sl.mk none 0 0) (Sl.mk none 0 0) (Sl.mk none 0 0) (Sl.mk none 0 0)).M3.n (g5.mk 0 ⟨#[]⟩ (Sl.mk none 0 0) (Sl.mk none 0 0) (Sl.mk none 0 0) (Sl.mk none 0 0)).M3.c), (Value.slice (g5.mk 0 ⟨#[]⟩ (Sl.mk none 0 0) (Sl.mk none 0 0) (Sl.mk none 0 0) (Sl.mk none 0 0)).L6.a (g5.mk 0 ⟨#[]⟩ (Sl.mk none 0 0) (Sl.mk none 0 0) (Sl.mk none 0 0) (Sl.mk none 0 0)).L6.n (g5.mk 0 ⟨#[]⟩ (Sl.mk none 0 0) (Sl.mk none 0 0) (Sl.mk none 0 0) (Sl.mk none 0 0)).L6.c)], dv] w) (_ : K8 q r t ([bn]) u v a5f b (g5.mk 0 ⟨#[]⟩ (Sl.mk none 0 0) (Sl.mk none 0 0) (Sl.mk none 0 0) (Sl.mk none 0 0)) H K), b3N (Value.pointer (some ⟨z, 0, none⟩)) (Value.pointer (some ⟨aa, 0, none⟩)) w R E := by
    intro q r t u v a5f H w I h
    unfold b3N
    intro _
    unfold K8 at h
    refine g7 (ldA Tryz.isAgg56 Tryz.sizeOf56 rfl (I.at1 (o := 0) (vs := [(vi q), (Value.string r), (vs t), (vs f), (vs u), (vs v)]) (nb rfl) rfl)) ?_
    refine g6 (I.bring 3) Tryz.sizeOf56 (vs := [(vi q), (Value.string r), (vs t), (vs f), (vs u), (vs v)]) (cs' := [(vi q), (Value.string r), (vs t), (vs f), (vs u), (vs v)]) rfl rfl (nb rfl) rfl rfl fun hp bo hq => ?_
    refine u1 Tryz.isAgg56 Tryz.sizeOf56 rfl (bo.at1 (o := 0) (vs := [(vi q), (Value.string r), (vs t), (vs f), (vs u), (vs v)]) (nb rfl) rfl) ?_
    obtain ⟨bp, ec, ed, ee, ef⟩ := Inv.freezeC (bo.bring 4) dw (by decide)
    replace h := h f bp ed ee ef
    exact hR _ bp _ _ (ec.drop.drop.bring 1).drop ⟨(g5.mk q r t f u v), a5f, rfl, rfl, h⟩
   refine u7 fun j3 hx3 => ?_
   refine g8 Tryz.call105 (h g0) (eb.bring 1) ?_
   rintro _ eg _ hr bq _ _ ⟨hs, eh, rfl, rfl, h⟩
   refine m8 h (fun _ h => ?_) (fun _ h => ?_)
   ·refine u6 hE Tryz.call107 (h g0) bq ?_
    rintro _ ei _ ht ej _ _ ⟨ay, ek, rfl, rfl, h⟩
    refine a7 a6u ?_
    refine g6 (ej.bring 1) Tryz.sizeOf24 (vs := [(vs ay)]) (cs' := [(vi 3), (eS), (nS), (vs f), (vs ah), (vs ay)]) rfl rfl (nb rfl) rfl rfl fun hu el hv => ?_
    exact hx3 _ _ (hj3 3 ⟨#[]⟩ (Sl.mk none 0 0) ah ay ek ei _ (((((el.bring 2).bring 4).bring 4).bring 4).bring 4) h)
   ·exact hx3 _ _ (hj3 3 ⟨#[]⟩ (Sl.mk none 0 0) ah (Sl.mk none 0 0) eh eg _ (((((bq.bring 2).bring 4).bring 4).bring 3).bring 4) h)
  ·refine a7 Q6 (g7 (l1 Tryz.isAgg9 d rfl) (a7 (R5 _ _ _ _ _) ?_))
   refine j9 h (fun _ h => ?_) (fun _ h => ?_)
   ·refine u6 hE Tryz.call41 (h g0) (d.bring 1) ?_
    rintro _ _ _ hw em _ _ ⟨en, hx, rfl, rfl, h⟩
    refine U4 (e := 49) (c := g9) (xs := [en]) em (a7B _ _ _ _ _ _ _ _) rfl rfl R6 R7 (nb rfl) fun j hy hz eo ep ia => ?_
    refine a7 a0o ?_
    refine g6 (ep.bring 3) Tryz.sizeOf3 (vs := [(vi 4)]) (cs' := [(vi 4), (eS), (nS), (nS), (nS), (nS)]) rfl rfl (nb rfl) rfl rfl fun ib eq ic => ?_
    refine a7 a3U ?_
    refine g6 eq Tryz.sizeOf47 (vs := [(vs j)]) (cs' := [(vi 4), (eS), (nS), (vs j), (nS), (nS)]) rfl rfl (nb rfl) rfl rfl fun id er ie => ?_
    refine u6 hE Tryz.call107 (h g0) (er.bring 2) ?_
    rintro _ _ _ ig es _ _ ⟨y, et, rfl, rfl, h⟩
    refine a7 a6t ?_
    refine g6 (es.bring 1) Tryz.sizeOf24 (vs := [(vs y)]) (cs' := [(vi 4), (eS), (nS), (vs j), (vs y), (nS)]) rfl rfl (nb rfl) rfl rfl fun ih br ii => ?_
    refine g7 (ldA Tryz.isAgg56 Tryz.sizeOf56 rfl (br.at1 (o := 0) (vs := [(vi 4), (eS), (nS), (vs j), (vs y), (nS)]) (nb rfl) rfl)) ?_
    refine g6 (br.bring 4) Tryz.sizeOf56 (vs := [(vi 4), (eS), (nS), (vs j), (vs y), (nS)]) (cs' := [(vi 4), (eS), (nS), (vs j), (vs y), (nS)]) rfl rfl (nb rfl) rfl rfl fun ij bs ik => ?_
    refine u1 Tryz.isAgg56 Tryz.sizeOf56 rfl (bs.at1 (o := 0) (vs := [(vi 4), (eS), (nS), (vs j), (vs y), (nS)]) (nb rfl) rfl) ?_
    obtain ⟨bt, eu, ev, ew, ex⟩ := Inv.freezeC (bs.bring 3) eo (by decide)
    replace h := h j bt ev ew ex
    exact hR _ bt _ _ (eu.drop.drop.bring 1).drop ⟨(g5.mk 4 ⟨#[]⟩ (Sl.mk none 0 0) j y (Sl.mk none 0 0)), et, rfl, rfl, h⟩
   ·refine a7 Q6 (g7 (l1 Tryz.isAgg9 d rfl) (a7 (R5 _ _ _ _ _) ?_))
    refine j9 h (fun _ h => ?_) (fun _ h => ?_)
    ·refine u6 hE Tryz.call41 (h g0) (d.bring 1) ?_
     rintro _ ey _ il ez _ _ ⟨bu, fa, rfl, rfl, h⟩
     refine U4 (e := 49) (c := g9) (xs := [bu]) ez (a7B _ _ _ _ _ _ _ _) rfl rfl R6 R7 (nb rfl) fun az fb im fc fd io => ?_
     refine a7 a0o ?_
     refine g6 (fd.bring 3) Tryz.sizeOf3 (vs := [(vi 5)]) (cs' := [(vi 5), (eS), (nS), (nS), (nS), (nS)]) rfl rfl (nb rfl) rfl rfl fun ip fe iq => ?_
     refine a7 a3U ?_
     refine g6 fe Tryz.sizeOf47 (vs := [(vs az)]) (cs' := [(vi 5), (eS), (nS), (vs az), (nS), (nS)]) rfl rfl (nb rfl) rfl rfl fun ir ff it => ?_
     exact hx1 _ _ (hj1 5 ⟨#[]⟩ [] [bu] (Sl.mk none 0 0) (Sl.mk none 0 0) fa (Sl.mk none 0 0) [] az fb ey _ (RowL.nil M6 M7) fc ((((((ff.nil.bring 2).bring 1).bring 5).bring 5).bring 5).bring 5) h)
    ·refine a7 Q6 (g7 (l1 Tryz.isAgg9 d rfl) (a7 (R5 _ _ _ _ _) ?_))
     refine j9 h (fun _ h => ?_) (fun _ h => ?_)
     ·refine u6 hE Tryz.call41 (h g0) (d.bring 1) ?_
      rintro _ fg _ iu fh _ _ ⟨bv, fi, rfl, rfl, h⟩
      refine U4 (e := 49) (c := g9) (xs := [bv]) fh (a7B _ _ _ _ _ _ _ _) rfl rfl R6 R7 (nb rfl) fun ba fj iv fk fl iw => ?_
      refine a7 a0o ?_
      refine g6 (fl.bring 3) Tryz.sizeOf3 (vs := [(vi 6)]) (cs' := [(vi 6), (eS), (nS), (nS), (nS), (nS)]) rfl rfl (nb rfl) rfl rfl fun ix fm iy => ?_
      refine a7 a3U ?_
      refine g6 fm Tryz.sizeOf47 (vs := [(vs ba)]) (cs' := [(vi 6), (eS), (nS), (vs ba), (nS), (nS)]) rfl rfl (nb rfl) rfl rfl fun iz fn ja => ?_
      exact hx1 _ _ (hj1 6 ⟨#[]⟩ [] [bv] (Sl.mk none 0 0) (Sl.mk none 0 0) fi (Sl.mk none 0 0) [] ba fj fg _ (RowL.nil M6 M7) fk ((((((fn.nil.bring 2).bring 1).bring 5).bring 5).bring 5).bring 5) h)
     ·refine a7 a0o ?_
      refine g6 (d.bring 2) Tryz.sizeOf3 (vs := [(vi 7)]) (cs' := [(vi 7), (eS), (nS), (nS), (nS), (nS)]) rfl rfl (nb rfl) rfl rfl fun jb fo jc => ?_
      exact hx1 _ _ (hj1 7 ⟨#[]⟩ [] [] (Sl.mk none 0 0) (Sl.mk none 0 0) cc (Sl.mk none 0 0) [] (Sl.mk none 0 0) [] ca _ (RowL.nil M6 M7) (RowL.nil R6 R7) (((((fo.nil.nil.bring 1).bring 5).bring 4).bring 5).bring 5) h)
def V9 [PanQ] (b : J5) (s8 : a8) (H : Hp) (K : Int → a8 → Hp → Prop) : Prop :=
 C3 s8 H (fun a =>
 K 0 s8 a)
def Q7 [PanQ] (v6 : J5) (c : J5) (A5 : Int) (m5 : a8) (H : Hp) (n2 : (Int × a8) → Hp → Prop) (K : Int → a8 → Hp → Prop) : Prop :=
 (A5 < 7 →
 (0 : Int) ≤ A5 ∧ (A5 : Int) < 7 ∧
 TG ((decide (0 < A5)) = true) (fun k_ => r8 m5 (([v6.f0, v6.f1, v6.f2, v6.f3, v6.f4, v6.f5, v6.f6] : List ByteArray).getD (A5 : Int).toNat ⟨#[]⟩) H fun d e H_ => k_ (d, e) H_) (false, m5) H (fun (a : Bool × a8) (b : Hp) =>
 (((decide (0 < A5)) && a.1) = true →
 K A5 a.2 b) ∧
 (((decide (0 < A5)) && a.1) = false →
 n2 ((IntKind.wrap .i64 (A5 + 1)), a.2) b))) ∧
 (¬ (A5 < 7) →
 V9 c m5 H K)
def Y7 [PanQ] (x0 : a8) (H : Hp) (K : Int → a8 → Hp → Prop) : Prop :=
 TL ((0, x0) : Int × a8) H fun (s : Int × a8) H n2 => Q7 (J5.mk ⟨#[]⟩ ⟨#[60]⟩ ⟨#[60, 61]⟩ ⟨#[61, 61]⟩ ⟨#[33, 61]⟩ ⟨#[62]⟩ ⟨#[62, 61]⟩) (J5.mk ⟨#[]⟩ ⟨#[60]⟩ ⟨#[60, 61]⟩ ⟨#[61, 61]⟩ ⟨#[33, 61]⟩ ⟨#[62]⟩ ⟨#[62, 61]⟩) s.1 s.2 H n2 K
theorem a5g [PanQ] (x0 : a8) {H : Hp} {K : Int → a8 → Hp → Prop} (h : Y7 x0 H K) : Y4 x0 H K := by
 intro g0
 refine Ct.ofE fun w0 w ps0 H0 R E I hR hE => c0R ?_
 unfold Y7 at h
 unfold c3E
 refine a7 (a6O _ _ _ _ _ _ _) ?_
 refine m7 I Tryz.zeroValue195 (cs := [(eS), (eS), (eS), (eS), (eS), (eS), (eS)]) rfl fun m ah z ai => ?_
 refine g6 z Tryz.sizeOf195 (vs := [(eS), (Value.string ⟨#[60]⟩), (Value.string ⟨#[60, 61]⟩), (Value.string ⟨#[61, 61]⟩), (Value.string ⟨#[33, 61]⟩), (Value.string ⟨#[62]⟩), (Value.string ⟨#[62, 61]⟩)]) (cs' := [(eS), (Value.string ⟨#[60]⟩), (Value.string ⟨#[60, 61]⟩), (Value.string ⟨#[61, 61]⟩), (Value.string ⟨#[33, 61]⟩), (Value.string ⟨#[62]⟩), (Value.string ⟨#[62, 61]⟩)]) rfl rfl (nb rfl) rfl rfl fun aj r ak => ?_
 have hj1 : ∀ (s8 : a8) H w (_ : Inv w0 ps0 H0 H [bx m 195 [(Value.string (J5.mk ⟨#[]⟩ ⟨#[60]⟩ ⟨#[60, 61]⟩ ⟨#[61, 61]⟩ ⟨#[33, 61]⟩ ⟨#[62]⟩ ⟨#[62, 61]⟩).f0), (Value.string (J5.mk ⟨#[]⟩ ⟨#[60]⟩ ⟨#[60, 61]⟩ ⟨#[61, 61]⟩ ⟨#[33, 61]⟩ ⟨#[62]⟩ ⟨#[62, 61]⟩).f1), (Value.string (J5.mk ⟨#[]⟩ ⟨#[60]⟩ ⟨#[60, 61]⟩ ⟨#[61, 61]⟩ ⟨#[33, 61]⟩ ⟨#[62]⟩ ⟨#[62, 61]⟩).f2), (Value.string (J5.mk ⟨#[]⟩ ⟨#[60]⟩ ⟨#[60, 61]⟩ ⟨#[61, 61]⟩ ⟨#[33, 61]⟩ ⟨#[62]⟩ ⟨#[62, 61]⟩).f3), (Value.string (J5.mk ⟨#[]⟩ ⟨#[60]⟩ ⟨#[60, 61]⟩ ⟨#[61, 61]⟩ ⟨#[33, 61]⟩ ⟨#[62]⟩ ⟨#[62, 61]⟩).f4), (Value.string (J5.mk ⟨#[]⟩ ⟨#[60]⟩ ⟨#[60, 61]⟩ ⟨#[61, 61]⟩ ⟨#[33, 61]⟩ ⟨#[62]⟩ ⟨#[62, 61]⟩).f5), (Value.string (J5.mk ⟨#[]⟩ ⟨#[60]⟩ ⟨#[60, 61]⟩ ⟨#[61, 61]⟩ ⟨#[33, 61]⟩ ⟨#[62]⟩ ⟨#[62, 61]⟩).f6)], bx g0 101 (b6 s8)] w) (_ : V9 (J5.mk ⟨#[]⟩ ⟨#[60]⟩ ⟨#[60, 61]⟩ ⟨#[61, 61]⟩ ⟨#[33, 61]⟩ ⟨#[62]⟩ ⟨#[62, 61]⟩) s8 H K), b1z (Value.pointer (some ⟨g0, 0, none⟩)) w R E := by
  intro s8 H w I h
  unfold b1z
  intro _
  unfold V9 at h
  refine u6 hE Tryz.call52 (h g0) (I.bring 1) ?_
  rintro _ aa _ al ab _ _ ⟨rfl, rfl, h⟩
  exact hR _ aa _ _ (ab.bring 1).drop ⟨0, s8, rfl, rfl, h⟩
 refine u7 fun j1 hx1 => ?_
 refine g7 (ldA Tryz.isAgg195 Tryz.sizeOf195 rfl (r.at1 (o := 0) (vs := [(eS), (Value.string ⟨#[60]⟩), (Value.string ⟨#[60, 61]⟩), (Value.string ⟨#[61, 61]⟩), (Value.string ⟨#[33, 61]⟩), (Value.string ⟨#[62]⟩), (Value.string ⟨#[62, 61]⟩)]) (nb rfl) rfl)) ?_
 obtain ⟨p, g, ac, ad⟩ := h
 refine E8 (J := fun n l w => ∃ (s : Int × a8) (H : Hp) , n = g s ∧ l = (match s with | (A5, m5) => [(vi A5)]) ∧ (match s with | (A5, m5) => Inv w0 ps0 H0 H [bx m 195 [(Value.string (J5.mk ⟨#[]⟩ ⟨#[60]⟩ ⟨#[60, 61]⟩ ⟨#[61, 61]⟩ ⟨#[33, 61]⟩ ⟨#[62]⟩ ⟨#[62, 61]⟩).f0), (Value.string (J5.mk ⟨#[]⟩ ⟨#[60]⟩ ⟨#[60, 61]⟩ ⟨#[61, 61]⟩ ⟨#[33, 61]⟩ ⟨#[62]⟩ ⟨#[62, 61]⟩).f1), (Value.string (J5.mk ⟨#[]⟩ ⟨#[60]⟩ ⟨#[60, 61]⟩ ⟨#[61, 61]⟩ ⟨#[33, 61]⟩ ⟨#[62]⟩ ⟨#[62, 61]⟩).f2), (Value.string (J5.mk ⟨#[]⟩ ⟨#[60]⟩ ⟨#[60, 61]⟩ ⟨#[61, 61]⟩ ⟨#[33, 61]⟩ ⟨#[62]⟩ ⟨#[62, 61]⟩).f3), (Value.string (J5.mk ⟨#[]⟩ ⟨#[60]⟩ ⟨#[60, 61]⟩ ⟨#[61, 61]⟩ ⟨#[33, 61]⟩ ⟨#[62]⟩ ⟨#[62, 61]⟩).f4), (Value.string (J5.mk ⟨#[]⟩ ⟨#[60]⟩ ⟨#[60, 61]⟩ ⟨#[61, 61]⟩ ⟨#[33, 61]⟩ ⟨#[62]⟩ ⟨#[62, 61]⟩).f5), (Value.string (J5.mk ⟨#[]⟩ ⟨#[60]⟩ ⟨#[60, 61]⟩ ⟨#[61, 61]⟩ ⟨#[33, 61]⟩ ⟨#[62]⟩ ⟨#[62, 61]⟩).f6)], bx g0 101 (b6 m5)] w) ∧ p s H) ⟨_, (0, x0), H, rfl, rfl, ((r.bring 1).bring 1), ac⟩ ?_
 rintro am an w next2 ⟨⟨A5, m5⟩, H, rfl, q, I, ae⟩ hn2
 dsimp only at q I
 simp only [List.map_cons, List.map_nil, List.cons.injEq, and_true] at q
 have e8 := q
 simp only [e8]
 obtain ⟨n2, hm2, h⟩ : ∃ n2 : (Int × a8) → Hp → Prop, (∀ s' H', n2 s' H' → p s' H' ∧ g s' < g (A5, m5)) ∧ Q7 (J5.mk ⟨#[]⟩ ⟨#[60]⟩ ⟨#[60, 61]⟩ ⟨#[61, 61]⟩ ⟨#[33, 61]⟩ ⟨#[62]⟩ ⟨#[62, 61]⟩) (J5.mk ⟨#[]⟩ ⟨#[60]⟩ ⟨#[60, 61]⟩ ⟨#[61, 61]⟩ ⟨#[33, 61]⟩ ⟨#[62]⟩ ⟨#[62, 61]⟩) A5 m5 H n2 K := ⟨_, fun _ _ h => h, ad (A5, m5) H (fun s' H' => p s' H' ∧ g s' < g (A5, m5)) ae (fun _ _ a b => ⟨a, b⟩)⟩
 unfold b5y
 unfold Q7 at h
 refine a7 pLs ?_
 refine j9 h (fun _ h => ?_) (fun _ h => ?_)
 ·obtain ⟨af, ag, h⟩ := h
  refine a7 (b6u _ _ _ _ _ _ _ _ _ af ag) (a7 pGt ?_)
  simp only [C9]
  refine O5 (D := fun t j => ∃ (f : Bool) (d : a8) (c : Hp) , t = (gv (decide (0 < A5)) true (vB f)) ∧ (Inv w0 ps0 H0 c [bx g0 101 (b6 d), bx m 195 [(Value.string (J5.mk ⟨#[]⟩ ⟨#[60]⟩ ⟨#[60, 61]⟩ ⟨#[61, 61]⟩ ⟨#[33, 61]⟩ ⟨#[62]⟩ ⟨#[62, 61]⟩).f0), (Value.string (J5.mk ⟨#[]⟩ ⟨#[60]⟩ ⟨#[60, 61]⟩ ⟨#[61, 61]⟩ ⟨#[33, 61]⟩ ⟨#[62]⟩ ⟨#[62, 61]⟩).f1), (Value.string (J5.mk ⟨#[]⟩ ⟨#[60]⟩ ⟨#[60, 61]⟩ ⟨#[61, 61]⟩ ⟨#[33, 61]⟩ ⟨#[62]⟩ ⟨#[62, 61]⟩).f2), (Value.string (J5.mk ⟨#[]⟩ ⟨#[60]⟩ ⟨#[60, 61]⟩ ⟨#[61, 61]⟩ ⟨#[33, 61]⟩ ⟨#[62]⟩ ⟨#[62, 61]⟩).f3), (Value.string (J5.mk ⟨#[]⟩ ⟨#[60]⟩ ⟨#[60, 61]⟩ ⟨#[61, 61]⟩ ⟨#[33, 61]⟩ ⟨#[62]⟩ ⟨#[62, 61]⟩).f4), (Value.string (J5.mk ⟨#[]⟩ ⟨#[60]⟩ ⟨#[60, 61]⟩ ⟨#[61, 61]⟩ ⟨#[33, 61]⟩ ⟨#[62]⟩ ⟨#[62, 61]⟩).f5), (Value.string (J5.mk ⟨#[]⟩ ⟨#[60]⟩ ⟨#[60, 61]⟩ ⟨#[61, 61]⟩ ⟨#[33, 61]⟩ ⟨#[62]⟩ ⟨#[62, 61]⟩).f6)]] j) ∧ (∀ i, i < w.heap.size → ¬ inF [bx g0 101 (b6 m5)] i → j.heap[i]? = w.heap[i]?) ∧ Hle H c ∧ ((((decide (0 < A5)) && f) = true →
 K A5 d c) ∧
 (((decide (0 < A5)) && f) = false →
 n2 ((IntKind.wrap .i64 (A5 + 1)), d) c))) (fun e => ?_) (fun e => ?_) ?_
  ·replace h := h.1 e
   have u := e
   simp only [m6 u]
   refine g8 Tryz.call105 (h g0) (I.bring 1) ?_
   rintro _ c _ j k v y ⟨f, d, rfl, rfl, h⟩
   exact ⟨f, d, c, by rfl, k, y, v, h⟩
  ·exact ⟨false, m5, H, by rw [X9 e], (I.bring 1), fun _ _ _ => rfl, Hle.refl _, h.2 e⟩
  ·clear h
   rintro t j ⟨f, d, c, rfl, k, y, v, h⟩
   refine a7 (I0 _ _) ?_
   refine m8 h (fun _ h => ?_) (fun _ h => ?_)
   ·exact hR _ c _ _ (k.bring 1).drop ⟨A5, d, rfl, rfl, h⟩
   ·refine a7 pAd ?_
    exact hn2 _ _ _ (hm2 _ _ h).2 ⟨((IntKind.wrap .i64 (A5 + 1)), d), c, rfl, rfl, (k.bring 1), (hm2 _ _ h).1⟩
 ·exact hx1 _ _ (hj1 m5 H _ ((I.bring 1).bring 1) h)
def O9 [PanQ] (a9Z : Int) (s8 : a8) (o : b7) (H : Hp) (K : b7 → a8 → Hp → Prop) : Prop :=
 M9 s8 H (fun a e f =>
 (a.f7 = 2 →
 K (b7.mk 1 a.N6 ⟨#[]⟩ (Sl.mk none 0 0)) e f) ∧
 (¬ (a.f7 = 2) →
 r8 e ⟨#[91]⟩ f (fun g i j =>
 ((!g) = true →
 K (b7.mk 2 0 a.A8 (Sl.mk none 0 0)) i j) ∧
 ((!g) = false →
 Q9 i a9Z ⟨#[93]⟩ j (fun k l m =>
 ∀ (b : Sl) (d : Hp), Hle m d → SlH d 4 c8 b [k] → b.n ≤ b.c →
 K (b7.mk 4 0 a.A8 b) l d)))))
def a0Z [PanQ] (x0 : a8) (x1 : Int) (H : Hp) (K : b7 → a8 → Hp → Prop) : Prop :=
 E0 x0 H (fun e f =>
 ((!e) = true →
 C3 x0 f (fun q =>
 O9 x1 x0 (b7.mk 0 0 ⟨#[]⟩ (Sl.mk none 0 0)) q K)) ∧
 ((!e) = false →
 r8 x0 ⟨#[45]⟩ f (fun g a i =>
 (g = true →
 E0 a i (fun r s =>
 A9 a (IntKind.wrap .i64 (x1 + 1)) r s (fun t =>
 N0 a (IntKind.wrap .i64 (x1 + 1)) t (fun u v y =>
 ∀ (b : Sl) (d : Hp), Hle y d → SlH d 4 c8 b [u] → b.n ≤ b.c →
 K (b7.mk 5 0 ⟨#[]⟩ b) v d)))) ∧
 (g = false →
 r8 a ⟨#[40]⟩ i (fun j k l =>
 (j = true →
 Q9 k x1 ⟨#[41]⟩ l (fun z aa ab =>
 K z aa ab)) ∧
 (j = false →
 r8 k ⟨#[105, 110, 112, 117, 116]⟩ l (fun m o p =>
 (m = true →
 K (b7.mk 3 0 ⟨#[]⟩ (Sl.mk none 0 0)) o p) ∧
 (m = false →
 O9 x1 o (b7.mk 0 0 ⟨#[]⟩ (Sl.mk none 0 0)) p K))))))))
theorem a6p [PanQ] (x0 : a8) (x1 : Int) {H : Hp} {K : b7 → a8 → Hp → Prop} (h : a0Z x0 x1 H K) : N0 x0 x1 H K := by
 intro g0
 refine Ct.ofE fun w0 w ps0 H0 R E I hR hE => c0O ?_
 unfold a0Z at h
 unfold c3B
 refine m7 I Tryz.zeroValue40 (cs := [(vi 0), (vi 0), (eS), (nS)]) rfl fun l bo ag bp => ?_
 have hj1 : ∀ (s8 : a8) H w (_ : Inv w0 ps0 H0 H [bx g0 101 (b6 s8), bx l 40 [(vi (b7.mk 0 0 ⟨#[]⟩ (Sl.mk none 0 0)).f7), (vi (b7.mk 0 0 ⟨#[]⟩ (Sl.mk none 0 0)).N6), (Value.string (b7.mk 0 0 ⟨#[]⟩ (Sl.mk none 0 0)).A7), (Value.slice (b7.mk 0 0 ⟨#[]⟩ (Sl.mk none 0 0)).E4.a (b7.mk 0 0 ⟨#[]⟩ (Sl.mk none 0 0)).E4.n (b7.mk 0 0 ⟨#[]⟩ (Sl.mk none 0 0)).E4.c)]] w) (_ : O9 x1 s8 (b7.mk 0 0 ⟨#[]⟩ (Sl.mk none 0 0)) H K), b1y (Value.pointer (some ⟨g0, 0, none⟩)) (vi x1) (Value.pointer (some ⟨l, 0, none⟩)) w R E := by
  intro s8 H w I h
  unfold b1y
  intro _
  unfold O9 at h
  refine u6 hE Tryz.call104 (h g0) I ?_
  rintro _ ah _ bq ai _ _ ⟨b, aj, rfl, rfl, h⟩
  refine m7 ai Tryz.zeroValue103 (cs := [(vi 0), (eS), (vi 0), (vi 0), (vi 0)]) rfl fun br bs ak bt => ?_
  refine g6 ak Tryz.sizeOf103 (vs := (d8 b)) (cs' := (d8 b)) rfl rfl (nb rfl) rfl rfl fun bu g bv => ?_
  refine a7 a0m (g7 (l1 Tryz.isAgg3 g rfl) (a7 pEq ?_))
  refine j9 h (fun _ h => ?_) (fun _ h => ?_)
  ·refine a7 a5J (g7 (l1 Tryz.isAgg2 g rfl) (a7 (b2U _ _) ?_))
   refine g6 (g.bring 2) Tryz.sizeOf40 (vs := [(vi 1), (vi b.N6), (eS), (nS)]) (cs' := [(vi 1), (vi b.N6), (eS), (nS)]) rfl rfl (nb rfl) rfl rfl fun bw m bz => ?_
   refine u1 Tryz.isAgg40 Tryz.sizeOf40 rfl (m.at1 (o := 0) (vs := [(vi 1), (vi b.N6), (eS), (nS)]) (nb rfl) rfl) ?_
   exact hR _ ah _ _ m.drop.drop ⟨(b7.mk 1 b.N6 ⟨#[]⟩ (Sl.mk none 0 0)), aj, rfl, rfl, h⟩
  ·refine g8 Tryz.call105 (h g0) (g.bring 1) ?_
   rintro _ al _ ca k _ _ ⟨cb, p, rfl, rfl, h⟩
   refine a7 (T8 _) ?_
   refine m8 h (fun _ h => ?_) (fun _ h => ?_)
   ·refine a7 Q6 (g7 (l1 Tryz.isAgg9 (k.bring 1) rfl) (a7 (b2V _ _) ?_))
    refine g6 (k.bring 2) Tryz.sizeOf40 (vs := [(vi 2), (vi 0), (Value.string b.A8), (nS)]) (cs' := [(vi 2), (vi 0), (Value.string b.A8), (nS)]) rfl rfl (nb rfl) rfl rfl fun cc q cd => ?_
    refine u1 Tryz.isAgg40 Tryz.sizeOf40 rfl (q.at1 (o := 0) (vs := [(vi 2), (vi 0), (Value.string b.A8), (nS)]) (nb rfl) rfl) ?_
    exact hR _ al _ _ (q.drop.bring 1).drop ⟨(b7.mk 2 0 b.A8 (Sl.mk none 0 0)), p, rfl, rfl, h⟩
   ·refine U3 k fun ce i => ?_
    refine o8 Q6 ?_
    refine A0 (l1 Tryz.isAgg9 (i.bring 1) rfl) ?_
    refine u6 hE Tryz.call106 (h g0) i ?_
    rintro _ _ _ cf r _ am ⟨an, ao, rfl, rfl, h⟩
    refine ⟨(am _ (i.bring 1).lt1 (Inv.Y1 (Fi := [bx g0 101 (b6 p)]) ((i.bring 1).bring 1))), ?_⟩
    refine U4 (e := 40) (c := c8) (xs := [an]) r (a9h _ _ _ _ _ _) rfl rfl M6 M7 (nb rfl) fun d cg ch ap aq ar => ?_
    refine ⟨(ar _ (r.bring 1).lt1), ?_⟩
    refine o8 (b0A _ _ _ _ _) ?_
    refine g6 (aq.bring 3) Tryz.sizeOf40 (vs := [(vi 4), (vi 0), (Value.string b.A8), (vs d)]) (cs' := [(vi 4), (vi 0), (Value.string b.A8), (vs d)]) rfl rfl (nb rfl) rfl rfl fun ci s cj => ?_
    refine u1 Tryz.isAgg40 Tryz.sizeOf40 rfl (s.at1 (o := 0) (vs := [(vi 4), (vi 0), (Value.string b.A8), (vs d)]) (nb rfl) rfl) ?_
    obtain ⟨t, au, av, aw, ax⟩ := Inv.freezeC (s.bring 1) ap (by decide)
    replace h := h d t av aw ax
    exact hR _ t _ _ (au.drop.bring 1).drop ⟨(b7.mk 4 0 b.A8 d), ao, rfl, rfl, h⟩
 refine u7 fun j1 hx1 => ?_
 refine g8 Tryz.call141 (h g0) (ag.bring 1) ?_
 rintro _ _ _ ck u _ _ ⟨cl, rfl, rfl, h⟩
 refine a7 (T8 _) ?_
 refine m8 h (fun _ h => ?_) (fun _ h => ?_)
 ·refine u6 hE Tryz.call52 (h g0) u ?_
  rintro _ ay _ cm az _ _ ⟨rfl, rfl, h⟩
  exact hx1 _ _ (hj1 x0 ay _ ((az.bring 1).bring 1) h)
 ·refine g8 Tryz.call105 (h g0) u ?_
  rintro _ _ _ cn v _ _ ⟨co, cp, rfl, rfl, h⟩
  refine m8 h (fun _ h => ?_) (fun _ h => ?_)
  ·refine a7 pAd ?_
   refine g8 Tryz.call141 (h g0) v ?_
   rintro _ _ _ cq ba _ _ ⟨cr, rfl, rfl, h⟩
   refine u6 hE Tryz.call55 (h g0) ba ?_
   rintro _ _ _ ct bb _ _ ⟨rfl, rfl, h⟩
   refine a7 pAd ?_
   refine u6 hE Tryz.call122 (h g0) bb ?_
   rintro _ _ _ cu bc _ _ ⟨bd, be, rfl, rfl, h⟩
   refine U4 (e := 40) (c := c8) (xs := [bd]) bc (a9h _ _ _ _ _ _) rfl rfl M6 M7 (nb rfl) fun f cv cw bf bg cx => ?_
   refine a7 (a4u _ _ _ _) ?_
   refine g6 (bg.bring 2) Tryz.sizeOf40 (vs := [(vi 5), (vi 0), (eS), (vs f)]) (cs' := [(vi 5), (vi 0), (eS), (vs f)]) rfl rfl (nb rfl) rfl rfl fun cy y cz => ?_
   refine u1 Tryz.isAgg40 Tryz.sizeOf40 rfl (y.at1 (o := 0) (vs := [(vi 5), (vi 0), (eS), (vs f)]) (nb rfl) rfl) ?_
   obtain ⟨z, bh, bi, bj, bk⟩ := Inv.freezeC (y.bring 1) bf (by decide)
   replace h := h f z bi bj bk
   exact hR _ z _ _ bh.drop ⟨(b7.mk 5 0 ⟨#[]⟩ f), be, rfl, rfl, h⟩
  ·refine g8 Tryz.call105 (h g0) v ?_
   rintro _ _ _ da aa _ _ ⟨db, dc, rfl, rfl, h⟩
   refine m8 h (fun _ h => ?_) (fun _ h => ?_)
   ·refine u6 hE Tryz.call106 (h g0) aa ?_
    rintro _ bl _ dd bm _ _ ⟨j, bn, rfl, rfl, h⟩
    refine g6 (bm.bring 1) Tryz.sizeOf40 (vs := (c8 j)) (cs' := (c8 j)) rfl rfl (nb rfl) rfl rfl fun de ab df => ?_
    refine u1 Tryz.isAgg40 Tryz.sizeOf40 rfl (ab.at1 (o := 0) (vs := (c8 j)) (nb rfl) rfl) ?_
    exact hR _ bl _ _ ab.drop ⟨j, bn, rfl, rfl, h⟩
   ·refine g8 Tryz.call105 (h g0) aa ?_
    rintro _ ac _ dg ad _ _ ⟨dh, ae, rfl, rfl, h⟩
    refine m8 h (fun _ h => ?_) (fun _ h => ?_)
    ·refine a7 (b4V _) ?_
     refine g6 (ad.bring 1) Tryz.sizeOf40 (vs := [(vi 3), (vi 0), (eS), (nS)]) (cs' := [(vi 3), (vi 0), (eS), (nS)]) rfl rfl (nb rfl) rfl rfl fun di af dj => ?_
     refine u1 Tryz.isAgg40 Tryz.sizeOf40 rfl (af.at1 (o := 0) (vs := [(vi 3), (vi 0), (eS), (nS)]) (nb rfl) rfl) ?_
     exact hR _ ac _ _ af.drop ⟨(b7.mk 3 0 ⟨#[]⟩ (Sl.mk none 0 0)), ae, rfl, rfl, h⟩
    ·exact hx1 _ _ (hj1 ae ac _ ((ad.bring 1).bring 1) h)
def t8 (U1 : Int) (q9 : ByteArray) (r7 : Int) (u2 : b9) (B0 : (List b5)) (H : Hp) (K : ByteArray → d6 → (List b5) → Hp → Prop) : Prop :=
 (0 : Int) ≤ U1 ∧ (U1 : Int) ≤ r7 ∧ (r7 : Int) ≤ q9.size ∧
 K (q9.extract (U1 : Int).toNat (r7 : Int).toNat) (d6.mk q9 r7 u2 (Sl.mk none 0 0)) B0 H
def y4 (b0a : Int) (E7 : Int) (v6 : Bool) (m9 : ByteArray) (o0 : Int) (l9 : b9) (m1 : (List b5)) (H : Hp) (n2 : (Int × Bool × ByteArray × Int × b9 × (List b5)) → Hp → Prop) (K : ByteArray → d6 → (List b5) → Hp → Prop) : Prop :=
 TG (v6 = true) (Z8 E7 H) false H (fun (b : Bool) (c : Hp) =>
 ((v6 && b) = true →
 y7 (d6.mk m9 o0 l9 (Sl.mk none 0 0)) m1 c (fun a d e =>
 u4 (p6 a) d e (fun f g i =>
 n2 (f, g, a.fs, a.fn, a.fat, d) i))) ∧
 ((v6 && b) = false →
 t8 b0a m9 o0 l9 m1 c K))
def H9 (x0 : d6) (a : (List b5)) (H : Hp) (K : ByteArray → d6 → (List b5) → Hp → Prop) : Prop :=
 u4 (p6 x0) a H (fun b c d =>
 TL ((b, c, x0.fs, x0.fn, x0.fat, a) : Int × Bool × ByteArray × Int × b9 × (List b5)) d fun (s : Int × Bool × ByteArray × Int × b9 × (List b5)) H n2 => y4 x0.fn s.1 s.2.1 s.2.2.1 s.2.2.2.1 s.2.2.2.2.1 s.2.2.2.2.2 H n2 K)
theorem a0t (x0 q) {H K} (h : H9 x0 q H K) : G9 x0 q H K := by
 intro g0 y z aa
 refine Ct.of fun w0 w ps0 H0 R E I hR => a9j ?_
 unfold H9 at h
 unfold b4b
 refine a7 (q7 _) (a7 U2 (g7 (l1 Tryz.isAgg3 I rfl) ?_))
 have hj1 : ∀ (q9 : ByteArray) (r7 : Int) (u2 : b9) (B0 : (List b5)) (R4 : Sl) (K5 : Frag) H w (_ : RowL 103 5 d8 R4 B0 K5) (_ : Inv w0 ps0 H0 H [bx g0 155 [(Value.string q9), (vi r7), (vi u2.v7), (vi u2.C8), (vs R4)], K5] w) (_ : t8 x0.fn q9 r7 u2 B0 H K), a3Z (Value.pointer (some ⟨g0, 0, none⟩)) (vi x0.fn) w R E := by
  intro q9 r7 u2 B0 R4 K5 H w a2q I h
  unfold a3Z
  intro _
  unfold t8 at h
  refine U3 I fun ax r => ?_
  refine o8 (q7 _) ?_
  refine o8 a4q ?_
  refine o8 (q7 _) ?_
  refine o8 U2 ?_
  refine A0 (l1 Tryz.isAgg9 r rfl) ?_
  refine A0 (l1 Tryz.isAgg3 r rfl) ?_
  obtain ⟨ak, al, am, h⟩ := h
  refine o8 (a7R q9 Tryz.underlying9 ak al am) ?_
  exact hR _ H _ _ ((r.bring 1).bring 1) ⟨(q9.extract (x0.fn : Int).toNat (r7 : Int).toNat), (d6.mk q9 r7 u2 (Sl.mk none 0 0)), B0, R4, K5, rfl, rfl, a2q, h⟩
 refine u7 fun j1 hx1 => ?_
 refine g8 Tryz.call100 (h g0 y z aa) ((I.bring 1).bring 1) ?_
 rintro _ an _ ay ao _ _ ⟨ab, ac, rfl, rfl, h⟩
 refine a7 (j7 _ _ (Value.int .i32 ab) rfl) (a7 (j7 _ _ (vB ac) rfl) ?_)
 obtain ⟨t, g, ap, aq⟩ := h
 refine E8 (J := fun n l w => ∃ (s : Int × Bool × ByteArray × Int × b9 × (List b5)) (H : Hp) (G1 : Sl) (C2 : Frag) , n = g s ∧ l = (match s with | (E7, v6, m9, o0, l9, m1) => [(Value.int .i32 E7), (vB v6)]) ∧ (match s with | (E7, v6, m9, o0, l9, m1) => RowL 103 5 d8 G1 m1 C2) ∧ (match s with | (E7, v6, m9, o0, l9, m1) => Inv w0 ps0 H0 H [bx g0 155 [(Value.string m9), (vi o0), (vi l9.v7), (vi l9.C8), (vs G1)], C2] w) ∧ t s H) ⟨_, (ab, ac, x0.fs, x0.fn, x0.fat, q), an, y, z, rfl, rfl, aa, ((ao.bring 1).bring 1), ap⟩ ?_
 rintro az ba w next2 ⟨⟨E7, v6, m9, o0, l9, m1⟩, H, G1, C2, rfl, u, O0, I, ar⟩ hn2
 dsimp only at u I O0
 simp only [List.map_cons, List.map_nil, List.cons.injEq, and_true] at u
 obtain ⟨e6, e7⟩ := u
 simp only [e6, e7]
 obtain ⟨n2, hm2, h⟩ : ∃ n2 : (Int × Bool × ByteArray × Int × b9 × (List b5)) → Hp → Prop, (∀ s' H', n2 s' H' → t s' H' ∧ g s' < g (E7, v6, m9, o0, l9, m1)) ∧ y4 x0.fn E7 v6 m9 o0 l9 m1 H n2 K := ⟨_, fun _ _ h => h, aq (E7, v6, m9, o0, l9, m1) H (fun s' H' => t s' H' ∧ g s' < g (E7, v6, m9, o0, l9, m1)) ar (fun _ _ a b => ⟨a, b⟩)⟩
 unfold a7F
 unfold y4 at h
 simp only [C9]
 refine O5 (D := fun ad j => ∃ (f : Bool) (c : Hp) , ad = (gv v6 true (vB f)) ∧ (Inv w0 ps0 H0 c [bx g0 155 [(Value.string m9), (vi o0), (vi l9.v7), (vi l9.C8), (vs G1)], C2] j) ∧ (∀ i, i < w.heap.size → ¬ inF [] i → j.heap[i]? = w.heap[i]?) ∧ Hle H c ∧ (((v6 && f) = true →
 y7 (d6.mk m9 o0 l9 (Sl.mk none 0 0)) m1 c (fun (d : d6) (k : (List b5)) (au : Hp) =>
 u4 (p6 d) k au (fun (m : Int) (o : Bool) (v : Hp) =>
 n2 (m, o, d.fs, d.fn, d.fat, k) v))) ∧
 ((v6 && f) = false →
 t8 x0.fn m9 o0 l9 m1 c K))) (fun e => ?_) (fun e => ?_) ?_
 ·replace h := h.1 e
  have ae := e
  simp only [m6 ae]
  refine g8 Tryz.call157 h I ?_
  rintro _ c _ j p af ag ⟨f, rfl, rfl, h⟩
  exact ⟨f, c, by rfl, p, ag, af, h⟩
 ·exact ⟨false, H, by rw [X9 e], I, fun _ _ _ => rfl, Hle.refl _, h.2 e⟩
 ·clear h
  rintro ad j ⟨f, c, rfl, p, ag, af, h⟩
  refine a7 (I0 _ _) ?_
  refine m8 h (fun _ h => ?_) (fun _ h => ?_)
  ·refine g8 Tryz.call152 (h g0 G1 C2 O0) ((p.bring 1).bring 1) ?_
   rintro _ _ _ bb av _ _ ⟨d, k, ah, ai, rfl, rfl, aj, h⟩
   refine g8 Tryz.call100 (h g0 ah ai aj) ((av.bring 1).bring 1) ?_
   rintro _ v _ bc aw _ _ ⟨m, o, rfl, rfl, h⟩
   refine a7 (j7 _ _ (Value.int .i32 m) rfl) (a7 (j7 _ _ (vB o) rfl) ?_)
   exact hn2 _ _ _ (hm2 _ _ h).2 ⟨(m, o, d.fs, d.fn, d.fat, k), v, ah, ai, rfl, rfl, aj, ((aw.bring 1).bring 1), (hm2 _ _ h).1⟩
  ·exact hx1 _ _ (hj1 m9 o0 l9 m1 G1 C2 c _ O0 ((p.bring 1).bring 1) h)
def a2U (x0 : b7) (H : Hp) (K : d7 → Hp → Prop) : Prop :=
 K (d7.D1 (F0.mk x0)) H
theorem a8i (x0) {H K} (h : a2U x0 H K) : a5c x0 H K := by
 refine Ct.of fun w0 w ps0 H0 R E I hR => c1r ?_
 unfold a2U at h
 unfold c4e
 refine Y0 I (cs := (c8 x0)) rfl fun b c a d => ?_
 refine g7 (lW Tryz.isAgg40 Tryz.sizeOf40 rfl a) (a7 (a8M _ _ _ _ _ _) (a7 (a5p (F0.mk x0)) ?_))
 exact hR _ H _ _ a.drop ⟨(d7.D1 (F0.mk x0)), rfl, rfl, h⟩
def B7 (S9 : (List d7)) (H : Hp) (K : Sl → Hp → Prop) : Prop :=
 ∀ (C6 : Sl) (a : Hp), Hle H a → SlH a 1 p9 C6 S9 → C6.n ≤ C6.c →
 K C6 a
def B8 (A5 : Sl) (a3I : Int) (u0 : (List d7)) (r9 : Int) (H : Hp) (n2 : ((List d7) × Int) → Hp → Prop) (K : Sl → Hp → Prop) : Prop :=
 (r9 < a3I →
 (0 : Int) ≤ r9 ∧ (r9 : Int) < A5.n ∧ ∃ a : f8, EltH H A5 r9 4 (g9 a) ∧
 a5d a H (fun b c =>
 (u0.length + ([b] : List d7).length) * 17 ≤ 140737488355328 ∧
 n2 ((u0 ++ [b]), (IntKind.wrap .i64 (r9 + 1))) c)) ∧
 (¬ (r9 < a3I) →
 B7 u0 H K)
def G6 (x0 : Sl) (H : Hp) (K : Sl → Hp → Prop) : Prop :=
 TL (([], 0) : (List d7) × Int) H fun (s : (List d7) × Int) H n2 => B8 x0 (x0.n : Int) s.1 s.2 H n2 K
theorem a0i (x0) {H K} (h : G6 x0 H K) : C4 x0 H K := by
 refine Ct.of fun w0 w ps0 H0 R E I hR => c1u ?_
 unfold G6 at h
 unfold c4h
 have hj1 : ∀ (S9 : (List d7)) (C6 : Sl) (Fs5j1 : Frag) H w (_ : RowL 131 1 p9 C6 S9 Fs5j1) (_ : Inv w0 ps0 H0 H [Fs5j1] w) (_ : B7 S9 H K), b1Q (vs C6) w R E := by
  intro S9 C6 Fs5j1 H w a6x I h
  unfold b1Q
  intro _
  unfold B7 at h
  obtain ⟨k, q, r, t, u⟩ := Inv.freezeC I a6x (by decide)
  replace h := h C6 k r t u
  exact hR _ k _ _ q ⟨C6, rfl, rfl, h⟩
 refine u7 fun j1 hx1 => ?_
 refine a7 (a8K _ _ _) ?_
 obtain ⟨f, d, v, y⟩ := h
 refine E8 (J := fun n l w => ∃ (s : (List d7) × Int) (H : Hp) (T1 : Sl) (Fs5l2 : Frag) , n = d s ∧ l = (match s with | (u0, r9) => [(vs T1), (vi r9)]) ∧ (match s with | (u0, r9) => RowL 131 1 p9 T1 u0 Fs5l2) ∧ (match s with | (u0, r9) => Inv w0 ps0 H0 H [Fs5l2] w) ∧ f s H) ⟨_, ([], 0), H, (Sl.mk none 0 0), [], rfl, rfl, (RowL.nil M8 Q1), I.nil, v⟩ ?_
 rintro am an w next2 ⟨⟨u0, r9⟩, H, T1, Fs5l2, rfl, g, a1j, I, z⟩ hn2
 dsimp only at g I a1j
 simp only [List.map_cons, List.map_nil, List.cons.injEq, and_true] at g
 obtain ⟨e5, e10⟩ := g
 simp only [e5, e10]
 obtain ⟨n2, hm2, h⟩ : ∃ n2 : ((List d7) × Int) → Hp → Prop, (∀ s' H', n2 s' H' → f s' H' ∧ d s' < d (u0, r9)) ∧ B8 x0 (x0.n : Int) u0 r9 H n2 K := ⟨_, fun _ _ h => h, y (u0, r9) H (fun s' H' => f s' H' ∧ d s' < d (u0, r9)) z (fun _ _ a b => ⟨a, b⟩)⟩
 unfold b5G
 unfold B8 at h
 refine a7 pLs ?_
 refine j9 h (fun _ h => ?_) (fun _ h => ?_)
 ·obtain ⟨aa, ab, i, j, h⟩ := h
  obtain ⟨ao, ap, ac, j⟩ := j
  refine a7 (b8J ac _ _ _ _ aa ab) (g7 (ldA (vs := (g9 i)) Tryz.isAgg49 Tryz.sizeOf49 rfl (I.atH j)) ?_)
  refine m7 I Tryz.zeroValue49 (cs := [(vi 0), (vi 0), (nS), (nS)]) rfl fun aq ar ad au => ?_
  refine g6 ad Tryz.sizeOf49 (vs := (g9 i)) (cs' := (g9 i)) rfl rfl (nb rfl) rfl rfl fun av m aw => ?_
  refine g7 (lW Tryz.isAgg49 Tryz.sizeOf49 rfl m) ?_
  refine g8 Tryz.call212 h m ?_
  rintro _ ae _ ax af _ _ ⟨o, rfl, rfl, h⟩
  refine U4 (e := 131) (c := p9) (xs := [o]) af (a6N _) rfl rfl M8 Q1 (nb rfl) fun ay az ba ag p bb => ?_
  obtain ⟨ah, h⟩ := h
  refine a7D (s := T1) (xs := u0) (p.bring 2) a1j (ag.srcO ((p.bring 2).bring 1)) ah fun ai aj bc ak al bd => ?_
  refine a7 pAd ?_
  exact hn2 _ _ _ (hm2 _ _ h).2 ⟨((u0 ++ [o]), (IntKind.wrap .i64 (r9 + 1))), ae, ai, aj, rfl, rfl, ak, ((al.bring 1).drop.bring 1).drop, (hm2 _ _ h).1⟩
 ·exact hx1 _ _ (hj1 u0 T1 Fs5l2 H _ a1j I h)
def a1D (x0 : U5) (H : Hp) (K : Sl → Hp → Prop) : Prop :=
 K (Sl.mk none 0 0) H
theorem a6Y (x0) {H K} (h : a1D x0 H K) : a3F x0 H K := by
 refine Ct.of fun w0 w ps0 H0 R E I hR => c1x ?_
 unfold a1D at h
 unfold c4k
 refine Y0 I (cs := (z6 x0.V1)) rfl fun b c a d => ?_
 exact hR _ H _ _ a.drop ⟨(Sl.mk none 0 0), rfl, rfl, h⟩
def N5 (U1 : Bool) (c0d : Int) (a9s : Bool) (a : N9) (b : R3) (H : Hp) (K : Bool → Hp → Prop) : Prop :=
 (a9s = true →
 K (U1 && (decide (a.fexprs = 0 ∧ a.fconds = 1))) H) ∧
 (a9s = false →
 (c0d = 7 →
 K (U1 && (decide (a.fexprs = 0 ∧ a.fconds = 0))) H) ∧
 (¬ (c0d = 7) →
 K false H))
def a1Z (x0 : R3) (H : Hp) (K : Bool → Hp → Prop) : Prop :=
 (x0.i7.f7 = 1 →
 K ((!(decide (0 < (IntKind.wrap .i64 ((x0.i7.M3.n : Int) + (x0.i7.L6.n : Int)))))) && (decide ((x0.i7.l8.n : Int) = 1 ∧ (x0.i7.z7.n : Int) = 0))) H) ∧
 (¬ (x0.i7.f7 = 1) →
 (x0.i7.f7 = 2 →
 K ((!(decide (0 < (IntKind.wrap .i64 ((x0.i7.M3.n : Int) + (x0.i7.L6.n : Int)))))) && (decide ((x0.i7.l8.n : Int) = 2 ∧ (x0.i7.z7.n : Int) = 0))) H) ∧
 (¬ (x0.i7.f7 = 2) →
 (x0.i7.f7 = 3 →
 K ((decide (x0.i7.A7 = ⟨#[]⟩)) && (decide ((x0.i7.l8.n : Int) = 0 ∧ (x0.i7.z7.n : Int) = 1))) H) ∧
 (¬ (x0.i7.f7 = 3) →
 (x0.i7.f7 = 4 →
 K (((decide (x0.i7.A7 = ⟨#[]⟩)) && (decide ((x0.i7.L6.n : Int) = 0))) && (decide ((x0.i7.l8.n : Int) = 0 ∧ (x0.i7.z7.n : Int) = 1))) H) ∧
 (¬ (x0.i7.f7 = 4) →
 (x0.i7.f7 = 5 →
 N5 ((decide (x0.i7.A7 = ⟨#[]⟩)) && (!(decide (0 < (IntKind.wrap .i64 ((x0.i7.M3.n : Int) + (x0.i7.L6.n : Int))))))) x0.i7.f7 (decide (x0.i7.f7 = 5)) (N9.mk (x0.i7.l8.n : Int) (x0.i7.z7.n : Int)) x0 H K) ∧
 (¬ (x0.i7.f7 = 5) →
 N5 ((decide (x0.i7.A7 = ⟨#[]⟩)) && (!(decide (0 < (IntKind.wrap .i64 ((x0.i7.M3.n : Int) + (x0.i7.L6.n : Int))))))) x0.i7.f7 (decide (x0.i7.f7 = 6)) (N9.mk (x0.i7.l8.n : Int) (x0.i7.z7.n : Int)) x0 H K)))))
theorem a7i (x0) {H K} (h : a1Z x0 H K) : a1U x0 H K := by
 refine Ct.of fun w0 w ps0 H0 R E I hR => c1y ?_
 unfold a1Z at h
 unfold c4l
 refine Y0 I (cs := (s7 x0.i7)) rfl fun e i c j => ?_
 refine a7 M0 (a7 a6t (g7 (l1 Tryz.isAgg24 c rfl) (a7 (a5S _ _ _) (a7 M0 ?_))))
 refine a7 a6u (g7 (l1 Tryz.isAgg24 c rfl) (a7 (a5S _ _ _) (a7 pAd (a7 pGt ?_))))
 refine a7 M0 (a7 a2g (g7 (l1 Tryz.isAgg38 c rfl) (a7 (a4E _ _ _) (a7 M0 ?_))))
 refine a7 a3U (g7 (l1 Tryz.isAgg47 c rfl) (a7 (a8K _ _ _) (a7 (a1l _ _) ?_)))
 refine m7 c Tryz.zeroValue264 (cs := [(vi 0), (vi 0)]) rfl fun d k f l => ?_
 refine g6 f Tryz.sizeOf264 (vs := [(vi (x0.i7.l8.n : Int)), (vi (x0.i7.z7.n : Int))]) (cs' := [(vi (x0.i7.l8.n : Int)), (vi (x0.i7.z7.n : Int))]) rfl rfl (nb rfl) rfl rfl fun m b p => ?_
 refine a7 M0 (a7 a4Z (g7 (l1 Tryz.isAgg9 (b.bring 1) rfl) (a7 (R5 _ _ _ _ _) ?_)))
 simp only [C9]
 refine a7 (Pu.g fun a => by simp only [m6 a]; with_reducible exact (T8 _)) ?_
 refine a7 (I0 _ _) (a7 M0 (a7 a0o (g7 (l1 Tryz.isAgg3 (b.bring 1) rfl) (a7 pEq ?_))))
 refine j9 h (fun _ h => ?_) (fun _ h => ?_)
 ·refine a7 (T8 _) ?_
  refine g7 (Ld.g fun a => by exact (ldA Tryz.isAgg264 Tryz.sizeOf264 rfl (b.at1 (o := 0) (vs := [(vi (x0.i7.l8.n : Int)), (vi (x0.i7.z7.n : Int))]) (nb rfl) rfl))) ?_
  refine a7 (Pu.g fun a => by with_reducible exact (a1l _ _)) ?_
  refine a7 (Pu.g fun a => by simp only [m6 a]; with_reducible exact (a4F _ _ _ _ _ _)) ?_
  refine a7 (I0 _ _) ?_
  exact hR _ H _ _ b.drop.drop ⟨((!(decide (0 < (IntKind.wrap .i64 ((x0.i7.M3.n : Int) + (x0.i7.L6.n : Int)))))) && (decide ((x0.i7.l8.n : Int) = 1 ∧ (x0.i7.z7.n : Int) = 0))), rfl, rfl, h⟩
 ·refine a7 pEq ?_
  refine j9 h (fun _ h => ?_) (fun _ h => ?_)
  ·refine a7 (T8 _) ?_
   refine g7 (Ld.g fun a => by exact (ldA Tryz.isAgg264 Tryz.sizeOf264 rfl (b.at1 (o := 0) (vs := [(vi (x0.i7.l8.n : Int)), (vi (x0.i7.z7.n : Int))]) (nb rfl) rfl))) ?_
   refine a7 (Pu.g fun a => by with_reducible exact (a1l _ _)) ?_
   refine a7 (Pu.g fun a => by simp only [m6 a]; with_reducible exact (a4F _ _ _ _ _ _)) ?_
   refine a7 (I0 _ _) ?_
   exact hR _ H _ _ b.drop.drop ⟨((!(decide (0 < (IntKind.wrap .i64 ((x0.i7.M3.n : Int) + (x0.i7.L6.n : Int)))))) && (decide ((x0.i7.l8.n : Int) = 2 ∧ (x0.i7.z7.n : Int) = 0))), rfl, rfl, h⟩
  ·refine a7 pEq ?_
   refine j9 h (fun _ h => ?_) (fun _ h => ?_)
   ·refine a7 M0 (a7 a4Z (g7 (l1 Tryz.isAgg9 (b.bring 1) rfl) (a7 (R5 _ _ _ _ _) ?_)))
    refine g7 (Ld.g fun a => by exact (ldA Tryz.isAgg264 Tryz.sizeOf264 rfl (b.at1 (o := 0) (vs := [(vi (x0.i7.l8.n : Int)), (vi (x0.i7.z7.n : Int))]) (nb rfl) rfl))) ?_
    refine a7 (Pu.g fun a => by with_reducible exact (a1l _ _)) ?_
    refine a7 (Pu.g fun a => by simp only [m6 a]; with_reducible exact (a4F _ _ _ _ _ _)) ?_
    refine a7 (I0 _ _) ?_
    exact hR _ H _ _ b.drop.drop ⟨((decide (x0.i7.A7 = ⟨#[]⟩)) && (decide ((x0.i7.l8.n : Int) = 0 ∧ (x0.i7.z7.n : Int) = 1))), rfl, rfl, h⟩
   ·refine a7 pEq ?_
    refine j9 h (fun _ h => ?_) (fun _ h => ?_)
    ·refine a7 M0 (a7 a4Z (g7 (l1 Tryz.isAgg9 (b.bring 1) rfl) (a7 (R5 _ _ _ _ _) ?_)))
     refine a7 (Pu.g fun a => by with_reducible exact M0) ?_
     refine a7 (Pu.g fun a => by simp only [m6 a]; with_reducible exact a6u) ?_
     refine g7 (Ld.g fun a => by simp only [m6 a]; exact (l1 Tryz.isAgg24 (b.bring 1) rfl)) ?_
     refine a7 (Pu.g fun a => by simp only [m6 a]; with_reducible exact (a5S _ _ _)) ?_
     refine a7 (Pu.g fun a => by simp only [m6 a]; with_reducible exact pEq) ?_
     refine a7 (I0 _ _) ?_
     refine g7 (Ld.g fun a => by exact (ldA Tryz.isAgg264 Tryz.sizeOf264 rfl (b.at1 (o := 0) (vs := [(vi (x0.i7.l8.n : Int)), (vi (x0.i7.z7.n : Int))]) (nb rfl) rfl))) ?_
     refine a7 (Pu.g fun a => by with_reducible exact (a1l _ _)) ?_
     refine a7 (Pu.g fun a => by simp only [m6 a]; with_reducible exact (a4F _ _ _ _ _ _)) ?_
     refine a7 (I0 _ _) ?_
     exact hR _ H _ _ b.drop.drop ⟨(((decide (x0.i7.A7 = ⟨#[]⟩)) && (decide ((x0.i7.L6.n : Int) = 0))) && (decide ((x0.i7.l8.n : Int) = 0 ∧ (x0.i7.z7.n : Int) = 1))), rfl, rfl, h⟩
    ·have hj1 : ∀ (a9s : Bool) H w (_ : Inv w0 ps0 H0 H [bx d 264 [(vi (N9.mk (x0.i7.l8.n : Int) (x0.i7.z7.n : Int)).fexprs), (vi (N9.mk (x0.i7.l8.n : Int) (x0.i7.z7.n : Int)).fconds)], bx e 177 (s7 x0.i7)] w) (_ : N5 ((decide (x0.i7.A7 = ⟨#[]⟩)) && (!(decide (0 < (IntKind.wrap .i64 ((x0.i7.M3.n : Int) + (x0.i7.L6.n : Int))))))) x0.i7.f7 a9s (N9.mk (x0.i7.l8.n : Int) (x0.i7.z7.n : Int)) x0 H K), b1R (Value.pointer (some ⟨d, 0, none⟩)) (vB ((decide (x0.i7.A7 = ⟨#[]⟩)) && (!(decide (0 < (IntKind.wrap .i64 ((x0.i7.M3.n : Int) + (x0.i7.L6.n : Int)))))))) (vi x0.i7.f7) (vB a9s) w R E := by
      intro a9s H w I h
      unfold b1R
      intro _
      unfold N5 at h
      refine m8 h (fun _ h => ?_) (fun _ h => ?_)
      ·refine g7 (Ld.g fun a => by exact (ldA Tryz.isAgg264 Tryz.sizeOf264 rfl (I.at1 (o := 0) (vs := [(vi (N9.mk (x0.i7.l8.n : Int) (x0.i7.z7.n : Int)).fexprs), (vi (N9.mk (x0.i7.l8.n : Int) (x0.i7.z7.n : Int)).fconds)]) (nb rfl) rfl))) ?_
       refine a7 (Pu.g fun a => by with_reducible exact (a1l _ _)) ?_
       refine a7 (Pu.g fun a => by simp only [m6 a]; with_reducible exact (a4F _ _ _ _ _ _)) ?_
       refine a7 (I0 _ _) ?_
       exact hR _ H _ _ I.drop.drop ⟨(((decide (x0.i7.A7 = ⟨#[]⟩)) && (!(decide (0 < (IntKind.wrap .i64 ((x0.i7.M3.n : Int) + (x0.i7.L6.n : Int))))))) && (decide ((N9.mk (x0.i7.l8.n : Int) (x0.i7.z7.n : Int)).fexprs = 0 ∧ (N9.mk (x0.i7.l8.n : Int) (x0.i7.z7.n : Int)).fconds = 1))), rfl, rfl, h⟩
      ·refine a7 pEq ?_
       refine j9 h (fun _ h => ?_) (fun _ h => ?_)
       ·refine g7 (Ld.g fun a => by exact (ldA Tryz.isAgg264 Tryz.sizeOf264 rfl (I.at1 (o := 0) (vs := [(vi (N9.mk (x0.i7.l8.n : Int) (x0.i7.z7.n : Int)).fexprs), (vi (N9.mk (x0.i7.l8.n : Int) (x0.i7.z7.n : Int)).fconds)]) (nb rfl) rfl))) ?_
        refine a7 (Pu.g fun a => by with_reducible exact (b6y )) ?_
        refine a7 (Pu.g fun a => by simp only [m6 a]; with_reducible exact (a4F _ _ _ _ _ _)) ?_
        refine a7 (I0 _ _) ?_
        exact hR _ H _ _ I.drop.drop ⟨(((decide (x0.i7.A7 = ⟨#[]⟩)) && (!(decide (0 < (IntKind.wrap .i64 ((x0.i7.M3.n : Int) + (x0.i7.L6.n : Int))))))) && (decide ((N9.mk (x0.i7.l8.n : Int) (x0.i7.z7.n : Int)).fexprs = 0 ∧ (N9.mk (x0.i7.l8.n : Int) (x0.i7.z7.n : Int)).fconds = 0))), rfl, rfl, h⟩
       ·exact hR _ H _ _ I.drop.drop ⟨false, rfl, rfl, h⟩
     refine u7 fun j1 hx1 => ?_
     refine a7 pEq ?_
     refine j9 h (fun _ h => ?_) (fun _ h => ?_)
     ·exact hx1 _ _ (hj1 (decide (x0.i7.f7 = 5)) H _ ((b.bring 1).bring 1) h)
     ·refine a7 pEq ?_
      exact hx1 _ _ (hj1 (decide (x0.i7.f7 = 6)) H _ ((b.bring 1).bring 1) h)
end Go.Proofs.YthklmeihgmcljaaGreatDoor
