/- Typed formulas of the program's functions, and the theorems that the contracts follow from them; printed by lift.py off the code. -/
import Derived.Test.YthklmeihgmcljaaGreatDoorzTV1
namespace Go.Proofs.YthklmeihgmcljaaGreatDoor
open Go.RowKit
set_option maxRecDepth 100000
set_option maxHeartbeats 2000000
def a4l (H : Hp) (K : Bool → Hp → Prop) : Prop :=
 W1 ⟨#[118, 97, 114, 32, 120, 59, 32, 120, 32, 61, 32, 49, 32, 43, 32, 50, 32, 42, 32, 120, 59]⟩ H (fun a k b i =>
 W1 ⟨#[120, 32, 61, 32, 59]⟩ i (fun l f j c =>
 ∃ d : g5, ((((decide (b = 0)) && (decide ((a.a1U.n : Int) = 1))) && (decide ((a.a0J.n : Int) = 1))) = true → (0 : Int) ≤ 0 ∧ (0 : Int) < a.a0J.n ∧ EltH c a.a0J 0 6 (l8 d)) ∧
 ∃ e : g5, (((((decide (b = 0)) && (decide ((a.a1U.n : Int) = 1))) && (decide ((a.a0J.n : Int) = 1))) && (decide ((d.m7.n : Int) = 1))) = true → (0 : Int) ≤ 0 ∧ (0 : Int) < a.a0J.n ∧ EltH c a.a0J 0 6 (l8 e)) ∧
 ∃ g : b9, (((((decide (b = 0)) && (decide ((a.a1U.n : Int) = 1))) && (decide ((a.a0J.n : Int) = 1))) && (decide ((d.m7.n : Int) = 1))) = true → (0 : Int) ≤ 0 ∧ (0 : Int) < e.m7.n ∧ EltH c e.m7 0 4 (d9 g)) ∧
 K (((((((decide (b = 0)) && (decide ((a.a1U.n : Int) = 1))) && (decide ((a.a0J.n : Int) = 1))) && (decide ((d.m7.n : Int) = 1))) && (decide (g.c8 = 6))) && (decide (j = 40))) && (decide (f.D9 = 1 ∧ f.L6 = 5))) c))
theorem a7g {H K} (h : a4l H K) : a1K H K := by
 refine Ct.of fun w0 w ps0 H0 R E I hR => c6U ?_
 unfold a4l at h
 unfold F8
 refine g9 Tryz.call9 h I ?_
 rintro _ _ _ af s _ _ ⟨f, o, p, rfl, rfl, h⟩
 refine a7 (j9 _ _ _ rfl) (a7 (j9 _ _ _ rfl) (a7 (j9 _ _ (vi p) rfl) ?_))
 refine p6 s Tryz.zeroValue26 (cs := [(nS), (nS)]) rfl fun ag ah t ai => ?_
 refine p6 t Tryz.zeroValue28 (cs := [(vi 0), (vi 0)]) rfl fun aj ak u al => ?_
 refine i6 (u.bring 1) Tryz.sizeOf26 (vs := (l9 f)) (cs' := (l9 f)) rfl rfl (nb rfl) rfl rfl fun am y an => ?_
 refine i6 (y.bring 1) Tryz.sizeOf28 (vs := (j8 o)) (cs' := (j8 o)) rfl rfl (nb rfl) rfl rfl fun ao z ap => ?_
 refine g9 Tryz.call9 h z ?_
 rintro _ aa _ aq ab _ _ ⟨q, i, r, rfl, rfl, h⟩
 refine a7 (j9 _ _ _ rfl) (a7 (j9 _ _ _ rfl) (a7 (j9 _ _ (vi r) rfl) ?_))
 refine p6 ab Tryz.zeroValue26 (cs := [(nS), (nS)]) rfl fun ar au ac av => ?_
 refine p6 ac Tryz.zeroValue28 (cs := [(vi 0), (vi 0)]) rfl fun aw ax ad ay => ?_
 refine i6 (ad.bring 1) Tryz.sizeOf26 (vs := (l9 q)) (cs' := (l9 q)) rfl rfl (nb rfl) rfl rfl fun az ae ba => ?_
 refine i6 (ae.bring 1) Tryz.sizeOf28 (vs := (j8 i)) (cs' := (j8 i)) rfl rfl (nb rfl) rfl rfl fun bb b bc => ?_
 refine a7 pEq ?_
 refine a7 (Pu.g fun a => by with_reducible exact a4E) ?_
 refine g6 (Ld.g fun a => by simp only [m1 a]; exact (l1 Tryz.isAgg23 (b.bring 3) rfl)) ?_
 refine a7 (Pu.g fun a => by simp only [m1 a]; with_reducible exact (a6y _ _ _)) ?_
 refine a7 (Pu.g fun a => by simp only [m1 a]; with_reducible exact pEq) ?_
 refine a7 (C1 _ _) ?_
 refine a7 (Pu.g fun a => by with_reducible exact a2M) ?_
 refine g6 (Ld.g fun a => by simp only [m1 a]; exact (l1 Tryz.isAgg24 (b.bring 3) rfl)) ?_
 refine a7 (Pu.g fun a => by simp only [m1 a]; with_reducible exact (a3u _ _ _)) ?_
 refine a7 (Pu.g fun a => by simp only [m1 a]; with_reducible exact pEq) ?_
 refine a7 (C1 _ _) ?_
 refine a7 (Pu.g fun a => by with_reducible exact a2M) ?_
 refine g6 (Ld.g fun a => by simp only [m1 a]; exact (l1 Tryz.isAgg24 (b.bring 3) rfl)) ?_
 obtain ⟨j, c, h⟩ := h
 obtain ⟨bd, be, c⟩ := b7n c
 refine a7 (Pu.g fun hb => by have a := hb; simp only [m1 a]; with_reducible exact (a7q (c hb).2.2.1 _ _ _ _ (c hb).1 (c hb).2.1)) ?_
 refine a7 (Pu.g fun a => by simp only [m1 a]; with_reducible exact a0K) ?_
 refine g6 (Ld.g fun hb => by have a := hb; simp only [m1 a]; exact (ld1 (v := (vs j.m7)) Tryz.isAgg38 ((b.atH (c hb).2.2.2).sub (k := 2) (n := 1) (nb rfl)))) ?_
 refine a7 (Pu.g fun a => by simp only [m1 a]; with_reducible exact (a3v _ _ _)) ?_
 refine a7 (Pu.g fun a => by simp only [m1 a]; with_reducible exact pEq) ?_
 refine a7 (C1 _ _) ?_
 refine a7 (Pu.g fun a => by with_reducible exact a2M) ?_
 refine g6 (Ld.g fun a => by simp only [m1 a]; exact (l1 Tryz.isAgg24 (b.bring 3) rfl)) ?_
 obtain ⟨m, d, h⟩ := h
 obtain ⟨bf, bg, d⟩ := b7n d
 refine a7 (Pu.g fun hb => by have a := hb; simp only [m1 a]; with_reducible exact (a7q (d hb).2.2.1 _ _ _ _ (d hb).1 (d hb).2.1)) ?_
 refine a7 (Pu.g fun a => by simp only [m1 a]; with_reducible exact a0K) ?_
 refine g6 (Ld.g fun hb => by have a := hb; simp only [m1 a]; exact (ld1 (v := (vs m.m7)) Tryz.isAgg38 ((b.atH (d hb).2.2.2).sub (k := 2) (n := 1) (nb rfl)))) ?_
 obtain ⟨l, e, h⟩ := h
 obtain ⟨bh, bi, e⟩ := b7n e
 refine a7 (Pu.g fun hb => by have a := hb; simp only [m1 a]; with_reducible exact (a8D (e hb).2.2.1 _ _ _ _ (e hb).1 (e hb).2.1)) ?_
 refine a7 (Pu.g fun a => by simp only [m1 a]; with_reducible exact a3B) ?_
 refine g6 (Ld.g fun hb => by have a := hb; simp only [m1 a]; exact (ld1 (v := (vi l.c8)) Tryz.isAgg3 ((b.atH (e hb).2.2.2).sub (k := 0) (n := 1) (nb rfl)))) ?_
 refine a7 (Pu.g fun a => by simp only [m1 a]; with_reducible exact pEq) ?_
 refine a7 (C1 _ _) ?_
 simp only [E5]
 refine a7 (Pu.g fun a => by simp only [m1 a]; with_reducible exact pEq) ?_
 refine a7 (C1 _ _) ?_
 refine g6 (Ld.g fun a => by exact (lW Tryz.isAgg28 Tryz.sizeOf28 rfl b)) ?_
 refine a7 (Pu.g fun a => by with_reducible exact (a9h _ _)) ?_
 refine a7 (Pu.g fun a => by simp only [m1 a]; with_reducible exact (b9H _ _ _ _ _ _)) ?_
 refine a7 (C1 _ _) ?_
 exact hR _ aa _ _ b.drop.drop.drop.drop ⟨(((((((decide (p = 0)) && (decide ((f.a1U.n : Int) = 1))) && (decide ((f.a0J.n : Int) = 1))) && (decide ((j.m7.n : Int) = 1))) && (decide (l.c8 = 6))) && (decide (r = 40))) && (decide (i.D9 = 1 ∧ i.L6 = 5))), rfl, rfl, h⟩
def a2Q (x0 : b6) (x1 : ByteArray) (H : Hp) (K : Bool → b6 → Hp → Prop) : Prop :=
 y4 x0 x1 H (fun a b =>
 ((!a) = true →
 K false x0 b) ∧
 ((!a) = false →
 K true (b6.mk x0.fl (IntKind.wrap .i64 (x0.fat + 1)) x0.fbad x0.fpos) b))
theorem a2R (x0 x1) {H K} (h : a2Q x0 x1 H K) : P8 x0 x1 H K := by
 intro g0
 refine Ct.of fun w0 w ps0 H0 R E I hR => c4f ?_
 unfold a2Q at h
 unfold F67
 refine g9 Tryz.call23 (h g0) I ?_
 rintro _ b _ d a _ _ ⟨e, rfl, rfl, h⟩
 refine a7 (T2 _) ?_
 refine p7 h (fun _ h => ?_) (fun _ h => ?_)
 ·exact hR _ b _ _ a ⟨false, x0, rfl, rfl, h⟩
 ·refine a7 (u2 _) (a7 a3C (g6 (l1 Tryz.isAgg3 a rfl) (a7 pAd (a7 (u2 _) ?_))))
  refine a7 a3C ?_
  refine i6 a Tryz.sizeOf3 (vs := [(vi (IntKind.wrap .i64 (x0.fat + 1)))]) (cs' := [(vs x0.fl), (vi (IntKind.wrap .i64 (x0.fat + 1))), (vi x0.fbad), (vi x0.fpos.D9), (vi x0.fpos.L6)]) rfl rfl (nb rfl) rfl rfl fun f c g => ?_
  exact hR _ b _ _ c ⟨true, (b6.mk x0.fl (IntKind.wrap .i64 (x0.fat + 1)) x0.fbad x0.fpos), rfl, rfl, h⟩
def C0 (c8r : Int) (a9D : Int) (a5N : b6) (d : b9) (e : b9) (H : Hp) (n2 : (b9 × b6 × b9) → Hp → Prop) (K : b9 → b6 → Hp → Prop) : Prop :=
 T8 (b6.mk a5N.fl (IntKind.wrap .i64 (a5N.fat + 1)) a5N.fbad a5N.fpos) c8r H (fun f g i =>
 ∀ (a : Sl) (b : Hp), Hle i b → SlH b 4 d9 a [d, f] → a.n ≤ a.c →
 n2 ((b9.mk a9D 0 ⟨#[]⟩ a), g, e) b)
def R6 (u5 : b6) (a : b9) (b : b9) (H : Hp) (K : b9 → b6 → Hp → Prop) : Prop :=
 K a u5 H
def R7 (a0g : Int) (a : b9) (p5 : b6) (b : b9) (H : Hp) (n2 : (b9 × b6 × b9) → Hp → Prop) (K : b9 → b6 → Hp → Prop) : Prop :=
 y4 p5 ⟨#[43]⟩ H (fun c d =>
 TG (c = false) (y4 p5 ⟨#[45]⟩ d) false d (fun (e : Bool) (f : Hp) =>
 ((c || e) = true →
 y4 p5 ⟨#[45]⟩ f (fun g i =>
 (g = true →
 C0 a0g 7 p5 a b i n2 K) ∧
 (g = false →
 C0 a0g 6 p5 a b i n2 K))) ∧
 ((c || e) = false →
 R6 p5 a b f K)))
def Z4 (x0 : b6) (x1 : Int) (H : Hp) (K : b9 → b6 → Hp → Prop) : Prop :=
 T8 x0 x1 H (fun a b c =>
 TL ((a, b, (b9.mk 0 0 ⟨#[]⟩ (Sl.mk none 0 0))) : b9 × b6 × b9) c fun (s : b9 × b6 × b9) H n2 => R7 x1 s.1 s.2.1 s.2.2 H n2 K)
theorem a5z (x0 x1) {H K} (h : Z4 x0 x1 H K) : a2u x0 x1 H K := by
 intro g0
 refine Ct.of fun w0 w ps0 H0 R E I hR => c3P ?_
 unfold Z4 at h
 unfold F37
 refine p6 I Tryz.zeroValue40 (cs := [(vi 0), (vi 0), (eS), (nS)]) rfl fun m bn aq bo => ?_
 refine g9 Tryz.call83 (h g0) (aq.bring 1) ?_
 rintro _ ar _ bp au _ _ ⟨aa, av, rfl, rfl, h⟩
 refine p6 au Tryz.zeroValue40 (cs := [(vi 0), (vi 0), (eS), (nS)]) rfl fun p bq aw br => ?_
 refine i6 aw Tryz.sizeOf40 (vs := (d9 aa)) (cs' := (d9 aa)) rfl rfl (nb rfl) rfl rfl fun bs ax bt => ?_
 have hj1 : ∀ (u5 : b6) (j : b9) (ab : b9) H w (_ : Inv w0 ps0 H0 H [bx g0 66 (m5 u5), bx p 40 (d9 j), bx m 40 (d9 ab)] w) (_ : R6 u5 j ab H K), b4r (Value.pointer (some ⟨m, 0, none⟩)) (Value.pointer (some ⟨p, 0, none⟩)) w R E := by
  intro u5 j ab H w I h
  unfold b4r
  intro _
  unfold R6 at h
  refine g6 (lW Tryz.isAgg40 Tryz.sizeOf40 rfl (I.bring 1)) ?_
  refine i6 (I.bring 2) Tryz.sizeOf40 (vs := (d9 j)) (cs' := (d9 j)) rfl rfl (nb rfl) rfl rfl fun bu af bv => ?_
  refine A5 Tryz.isAgg40 Tryz.sizeOf40 rfl (af.at1 (o := 0) (vs := (d9 j)) (nb rfl) rfl) ?_
  exact hR _ H _ _ (af.drop.bring 1).drop ⟨j, u5, rfl, rfl, h⟩
 refine z8 fun j1 hx1 => ?_
 obtain ⟨ac, r, ay, az⟩ := h
 refine G7 (J := fun n l w => ∃ (s : b9 × b6 × b9) (H : Hp) , n = r s ∧ l = (match s with | (d, p5, f) => []) ∧ (match s with | (d, p5, f) => Inv w0 ps0 H0 H [bx p 40 (d9 d), bx g0 66 (m5 p5), bx m 40 (d9 f)] w) ∧ ac s H) ⟨_, (aa, av, (b9.mk 0 0 ⟨#[]⟩ (Sl.mk none 0 0))), ar, rfl, rfl, (((ax.bring 2).bring 2).bring 2), ay⟩ ?_
 rintro bw bz w next2 ⟨⟨d, p5, f⟩, H, rfl, ag, I, ba⟩ hn2
 dsimp only at ag I
 clear ag
 obtain ⟨n2, hm2, h⟩ : ∃ n2 : (b9 × b6 × b9) → Hp → Prop, (∀ s' H', n2 s' H' → ac s' H' ∧ r s' < r (d, p5, f)) ∧ R7 x1 d p5 f H n2 K := ⟨_, fun _ _ h => h, az (d, p5, f) H (fun s' H' => ac s' H' ∧ r s' < r (d, p5, f)) ba (fun _ _ a b => ⟨a, b⟩)⟩
 unfold b8w
 unfold R7 at h
 refine g9 Tryz.call23 (h g0) (I.bring 1) ?_
 rintro _ ah _ ai aj _ _ ⟨ad, rfl, rfl, h⟩
 simp only [E5]
 refine G6 (D := fun ak u => ∃ (q : Bool) (g : Hp) , ak = (gv ad false (vB q)) ∧ (Inv w0 ps0 H0 g [bx g0 66 (m5 p5), bx p 40 (d9 d), bx m 40 (d9 f)] u) ∧ (∀ i, i < ai.heap.size → ¬ inF [bx g0 66 (m5 p5)] i → u.heap[i]? = ai.heap[i]?) ∧ Hle ah g ∧ (((ad || q) = true →
 y4 p5 ⟨#[45]⟩ g (fun (ae : Bool) (t : Hp) =>
 (ae = true →
 C0 x1 7 p5 d f t n2 K) ∧
 (ae = false →
 C0 x1 6 p5 d f t n2 K))) ∧
 ((ad || q) = false →
 R6 p5 d f g K))) (fun k => ?_) (fun k => ?_) ?_
 ·replace h := h.1 k
  have al := k
  simp only [m1 al]
  refine g9 Tryz.call23 (h g0) aj ?_
  rintro _ g _ u v am an ⟨q, rfl, rfl, h⟩
  exact ⟨q, g, by rfl, v, an, am, h⟩
 ·exact ⟨false, ah, by rw [R8 k], aj, fun _ _ _ => rfl, Hle.refl _, h.2 k⟩
 ·clear h
  rintro ak u ⟨q, g, rfl, v, an, am, h⟩
  refine a7 (P6 _ _) ?_
  refine p7 h (fun _ h => ?_) (fun _ h => ?_)
  ·have hj3 : ∀ (a9D : Int) H w (_ : Inv w0 ps0 H0 H [bx g0 66 (m5 p5), bx p 40 (d9 d), bx m 40 (d9 f)] w) (_ : C0 x1 a9D p5 d f H n2 K), b4s (Value.pointer (some ⟨g0, 0, none⟩)) (vi x1) (Value.pointer (some ⟨m, 0, none⟩)) (Value.pointer (some ⟨p, 0, none⟩)) (vi a9D) w next2 R E := by
    intro a9D H w I h
    unfold b4s
    intro _
    unfold C0 at h
    refine a7 (u2 _) (a7 a3C (g6 (l1 Tryz.isAgg3 I rfl) (a7 pAd (a7 (u2 _) ?_))))
    refine a7 a3C ?_
    refine i6 I Tryz.sizeOf3 (vs := [(vi (IntKind.wrap .i64 (p5.fat + 1)))]) (cs' := [(vs p5.fl), (vi (IntKind.wrap .i64 (p5.fat + 1))), (vi p5.fbad), (vi p5.fpos.D9), (vi p5.fpos.L6)]) rfl rfl (nb rfl) rfl rfl fun ca bb cb => ?_
    refine W4 bb fun cc y => ?_
    refine C4 (lW Tryz.isAgg40 Tryz.sizeOf40 rfl (y.bring 1)) ?_
    refine g9 Tryz.call83 (h g0) y ?_
    rintro _ _ _ cd bc _ bd ⟨be, bf, rfl, rfl, h⟩
    refine ⟨(bd _ (y.bring 1).lt1 (Inv.Z9 (Fi := [bx g0 66 [(vs p5.fl), (vi (IntKind.wrap .i64 (p5.fat + 1))), (vi p5.fbad), (vi p5.fpos.D9), (vi p5.fpos.L6)]]) ((y.bring 1).bring 1))), ?_⟩
    refine W5 (e := 40) (c := d9) (xs := [d, be]) bc (a9W _ _ _ _ _ _ _ _ _ _ _ _) rfl rfl O6 O7 (nb rfl) fun z ce cf bg bh cg => ?_
    refine r8 (a5e _ _ _ _) ?_
    refine i6 (bh.bring 2) Tryz.sizeOf40 (vs := [(vi a9D), (vi 0), (eS), (vs z)]) (cs' := [(vi a9D), (vi 0), (eS), (vs z)]) rfl rfl (nb rfl) rfl rfl fun ch bi ci => ?_
    obtain ⟨ao, bj, bk, bl, bm⟩ := Inv.freezeC (bi.bring 1) bg (by decide)
    replace h := h z ao bk bl bm
    exact hn2 _ _ _ (hm2 _ _ h).2 ⟨((b9.mk a9D 0 ⟨#[]⟩ z), bf, f), ao, rfl, rfl, (((bj.bring 2).bring 2).bring 2), (hm2 _ _ h).1⟩
   refine z8 fun j3 hx3 => ?_
   refine g9 Tryz.call23 (h g0) v ?_
   rintro _ t _ cj ap _ _ ⟨ae, rfl, rfl, h⟩
   refine p7 h (fun _ h => ?_) (fun _ h => ?_)
   ·exact hx3 _ _ (hj3 7 t _ (((ap.bring 2).bring 2).bring 2) h)
   ·exact hx3 _ _ (hj3 6 t _ (((ap.bring 2).bring 2).bring 2) h)
  ·exact hx1 _ _ (hj1 p5 d f g _ (((v.bring 2).bring 2).bring 2) h)
def C7 (U8 : (List d8)) (H : Hp) (K : Sl → Hp → Prop) : Prop :=
 ∀ (E3 : Sl) (a : Hp), Hle H a → SlH a 1 v7 E3 U8 → E3.n ≤ E3.c →
 K E3 a
def C8 (B9 : Sl) (a4u : Int) (y8 : (List d8)) (u1 : Int) (H : Hp) (n2 : ((List d8) × Int) → Hp → Prop) (K : Sl → Hp → Prop) : Prop :=
 (u1 < a4u →
 (0 : Int) ≤ u1 ∧ (u1 : Int) < B9.n ∧ ∃ a : k7, EltH H B9 u1 2 (y3 a) ∧
 a5H a H (fun b c =>
 (y8.length + ([b] : List d8).length) * 17 ≤ 140737488355328 ∧
 n2 ((y8 ++ [b]), (IntKind.wrap .i64 (u1 + 1))) c)) ∧
 (¬ (u1 < a4u) →
 C7 y8 H K)
def K6 (x0 : Sl) (H : Hp) (K : Sl → Hp → Prop) : Prop :=
 TL (([], 0) : (List d8) × Int) H fun (s : (List d8) × Int) H n2 => C8 x0 (x0.n : Int) s.1 s.2 H n2 K
theorem a0D (x0) {H K} (h : K6 x0 H K) : K3 x0 H K := by
 refine Ct.of fun w0 w ps0 H0 R E I hR => c4i ?_
 unfold K6 at h
 unfold F76
 have hj1 : ∀ (U8 : (List d8)) (E3 : Sl) (Fs5j1 : Frag) H w (_ : RowL 131 1 v7 E3 U8 Fs5j1) (_ : Inv w0 ps0 H0 H [Fs5j1] w) (_ : C7 U8 H K), b4G (vs E3) w R E := by
  intro U8 E3 Fs5j1 H w a7e I h
  unfold b4G
  intro _
  unfold C7 at h
  obtain ⟨k, q, r, t, u⟩ := Inv.freezeC I a7e (by decide)
  replace h := h E3 k r t u
  exact hR _ k _ _ q ⟨E3, rfl, rfl, h⟩
 refine z8 fun j1 hx1 => ?_
 refine a7 (a6y _ _ _) ?_
 obtain ⟨f, d, v, y⟩ := h
 refine G7 (J := fun n l w => ∃ (s : (List d8) × Int) (H : Hp) (V0 : Sl) (Fs5l2 : Frag) , n = d s ∧ l = (match s with | (y8, u1) => [(vs V0), (vi u1)]) ∧ (match s with | (y8, u1) => RowL 131 1 v7 V0 y8 Fs5l2) ∧ (match s with | (y8, u1) => Inv w0 ps0 H0 H [Fs5l2] w) ∧ f s H) ⟨_, ([], 0), H, (Sl.mk none 0 0), [], rfl, rfl, (RowL.nil S0 U2), I.nil, v⟩ ?_
 rintro am an w next2 ⟨⟨y8, u1⟩, H, V0, Fs5l2, rfl, g, a1M, I, z⟩ hn2
 dsimp only at g I a1M
 simp only [List.map_cons, List.map_nil, List.cons.injEq, and_true] at g
 obtain ⟨e5, e10⟩ := g
 simp only [e5, e10]
 obtain ⟨n2, hm2, h⟩ : ∃ n2 : ((List d8) × Int) → Hp → Prop, (∀ s' H', n2 s' H' → f s' H' ∧ d s' < d (y8, u1)) ∧ C8 x0 (x0.n : Int) y8 u1 H n2 K := ⟨_, fun _ _ h => h, y (y8, u1) H (fun s' H' => f s' H' ∧ d s' < d (y8, u1)) z (fun _ _ a b => ⟨a, b⟩)⟩
 unfold b8E
 unfold C8 at h
 refine a7 pLs ?_
 refine m6 h (fun _ h => ?_) (fun _ h => ?_)
 ·obtain ⟨aa, ab, i, j, h⟩ := h
  obtain ⟨ao, ap, ac, j⟩ := j
  refine a7 (b0S ac _ _ _ _ aa ab) (g6 (ldA (vs := (y3 i)) Tryz.isAgg68 Tryz.sizeOf68 rfl (I.atH j)) ?_)
  refine p6 I Tryz.zeroValue68 (cs := [(eS), (vi 0)]) rfl fun aq ar ad au => ?_
  refine i6 ad Tryz.sizeOf68 (vs := (y3 i)) (cs' := (y3 i)) rfl rfl (nb rfl) rfl rfl fun av m aw => ?_
  refine g6 (lW Tryz.isAgg68 Tryz.sizeOf68 rfl m) ?_
  refine g9 Tryz.call77 h m ?_
  rintro _ ae _ ax af _ _ ⟨o, rfl, rfl, h⟩
  refine W5 (e := 131) (c := v7) (xs := [o]) af (a8F _) rfl rfl S0 U2 (nb rfl) fun ay az ba ag p bb => ?_
  obtain ⟨ah, h⟩ := h
  refine a8n (s := V0) (xs := y8) (p.bring 2) a1M (ag.srcO ((p.bring 2).bring 1)) ah fun ai aj bc ak al bd => ?_
  refine a7 pAd ?_
  exact hn2 _ _ _ (hm2 _ _ h).2 ⟨((y8 ++ [o]), (IntKind.wrap .i64 (u1 + 1))), ae, ai, aj, rfl, rfl, ak, ((al.bring 1).drop.bring 1).drop, (hm2 _ _ h).1⟩
 ·exact hx1 _ _ (hj1 y8 V0 Fs5l2 H _ a1M I h)
def C9 (U8 : (List d8)) (H : Hp) (K : Sl → Hp → Prop) : Prop :=
 ∀ (E3 : Sl) (a : Hp), Hle H a → SlH a 1 v7 E3 U8 → E3.n ≤ E3.c →
 K E3 a
def D1 (B9 : Sl) (a4u : Int) (y8 : (List d8)) (u1 : Int) (H : Hp) (n2 : ((List d8) × Int) → Hp → Prop) (K : Sl → Hp → Prop) : Prop :=
 (u1 < a4u →
 (0 : Int) ≤ u1 ∧ (u1 : Int) < B9.n ∧ ∃ a : g5, EltH H B9 u1 6 (l8 a) ∧
 a5I a H (fun b c =>
 (y8.length + ([b] : List d8).length) * 17 ≤ 140737488355328 ∧
 n2 ((y8 ++ [b]), (IntKind.wrap .i64 (u1 + 1))) c)) ∧
 (¬ (u1 < a4u) →
 C9 y8 H K)
def K7 (x0 : Sl) (H : Hp) (K : Sl → Hp → Prop) : Prop :=
 TL (([], 0) : (List d8) × Int) H fun (s : (List d8) × Int) H n2 => D1 x0 (x0.n : Int) s.1 s.2 H n2 K
theorem a0E (x0) {H K} (h : K7 x0 H K) : B2 x0 H K := by
 refine Ct.of fun w0 w ps0 H0 R E I hR => c4k ?_
 unfold K7 at h
 unfold F78
 have hj1 : ∀ (U8 : (List d8)) (E3 : Sl) (Fs5j1 : Frag) H w (_ : RowL 131 1 v7 E3 U8 Fs5j1) (_ : Inv w0 ps0 H0 H [Fs5j1] w) (_ : C9 U8 H K), b4H (vs E3) w R E := by
  intro U8 E3 Fs5j1 H w a7e I h
  unfold b4H
  intro _
  unfold C9 at h
  obtain ⟨k, q, r, t, u⟩ := Inv.freezeC I a7e (by decide)
  replace h := h E3 k r t u
  exact hR _ k _ _ q ⟨E3, rfl, rfl, h⟩
 refine z8 fun j1 hx1 => ?_
 refine a7 (a3u _ _ _) ?_
 obtain ⟨f, d, v, y⟩ := h
 refine G7 (J := fun n l w => ∃ (s : (List d8) × Int) (H : Hp) (V0 : Sl) (Fs5l2 : Frag) , n = d s ∧ l = (match s with | (y8, u1) => [(vs V0), (vi u1)]) ∧ (match s with | (y8, u1) => RowL 131 1 v7 V0 y8 Fs5l2) ∧ (match s with | (y8, u1) => Inv w0 ps0 H0 H [Fs5l2] w) ∧ f s H) ⟨_, ([], 0), H, (Sl.mk none 0 0), [], rfl, rfl, (RowL.nil S0 U2), I.nil, v⟩ ?_
 rintro am an w next2 ⟨⟨y8, u1⟩, H, V0, Fs5l2, rfl, g, a1M, I, z⟩ hn2
 dsimp only at g I a1M
 simp only [List.map_cons, List.map_nil, List.cons.injEq, and_true] at g
 obtain ⟨e5, e10⟩ := g
 simp only [e5, e10]
 obtain ⟨n2, hm2, h⟩ : ∃ n2 : ((List d8) × Int) → Hp → Prop, (∀ s' H', n2 s' H' → f s' H' ∧ d s' < d (y8, u1)) ∧ D1 x0 (x0.n : Int) y8 u1 H n2 K := ⟨_, fun _ _ h => h, y (y8, u1) H (fun s' H' => f s' H' ∧ d s' < d (y8, u1)) z (fun _ _ a b => ⟨a, b⟩)⟩
 unfold b8F
 unfold D1 at h
 refine a7 pLs ?_
 refine m6 h (fun _ h => ?_) (fun _ h => ?_)
 ·obtain ⟨aa, ab, i, j, h⟩ := h
  obtain ⟨ao, ap, ac, j⟩ := j
  refine a7 (a7q ac _ _ _ _ aa ab) (g6 (ldA (vs := (l8 i)) Tryz.isAgg56 Tryz.sizeOf56 rfl (I.atH j)) ?_)
  refine p6 I Tryz.zeroValue56 (cs := [(vi 0), (eS), (nS), (nS), (nS), (nS)]) rfl fun aq ar ad au => ?_
  refine i6 ad Tryz.sizeOf56 (vs := (l8 i)) (cs' := (l8 i)) rfl rfl (nb rfl) rfl rfl fun av m aw => ?_
  refine g6 (lW Tryz.isAgg56 Tryz.sizeOf56 rfl m) ?_
  refine g9 Tryz.call79 h m ?_
  rintro _ ae _ ax af _ _ ⟨o, rfl, rfl, h⟩
  refine W5 (e := 131) (c := v7) (xs := [o]) af (a8F _) rfl rfl S0 U2 (nb rfl) fun ay az ba ag p bb => ?_
  obtain ⟨ah, h⟩ := h
  refine a8n (s := V0) (xs := y8) (p.bring 2) a1M (ag.srcO ((p.bring 2).bring 1)) ah fun ai aj bc ak al bd => ?_
  refine a7 pAd ?_
  exact hn2 _ _ _ (hm2 _ _ h).2 ⟨((y8 ++ [o]), (IntKind.wrap .i64 (u1 + 1))), ae, ai, aj, rfl, rfl, ak, ((al.bring 1).drop.bring 1).drop, (hm2 _ _ h).1⟩
 ·exact hx1 _ _ (hj1 y8 V0 Fs5l2 H _ a1M I h)
def a5q (x0 : Int) (x1 : Int) (x2 : Int) (H : Hp) (K : Bool → Hp → Prop) : Prop :=
 K ((decide (x0 ≤ x2)) && (decide (x2 ≤ x1))) H
theorem a8s (x0 x1 x2) {H K} (h : a5q x0 x1 x2 H K) : M2 x0 x1 x2 H K := by
 intro g2
 refine Ct.of fun w0 w ps0 H0 R E I hR => c2g ?_
 unfold a5q at h
 unfold c5c
 refine g6 (l1 Tryz.isAgg21 I rfl) (a7 pLe ?_)
 refine g6 (Ld.g fun a => by exact (l1 Tryz.isAgg21 I rfl)) ?_
 simp only [E5]
 refine a7 (Pu.g fun a => by simp only [m1 a]; with_reducible exact pLe) ?_
 refine a7 (C1 _ _) ?_
 exact hR _ H _ _ I ⟨((decide (x0 ≤ x2)) && (decide (x2 ≤ x1))), rfl, rfl, h⟩
def s6 (B5 : Bool) (H : Hp) (K : Bool → Hp → Prop) : Prop :=
 (B5 = true →
 K true H) ∧
 (B5 = false →
 K false H)
def a4Y (x0 : ByteArray) (H : Hp) (K : Bool → Hp → Prop) : Prop :=
 (x0 = ⟨#[118, 97, 114]⟩ →
 s6 (decide (x0 = ⟨#[118, 97, 114]⟩)) H K) ∧
 (¬ (x0 = ⟨#[118, 97, 114]⟩) →
 (x0 = ⟨#[97, 114, 114, 97, 121]⟩ →
 s6 (decide (x0 = ⟨#[97, 114, 114, 97, 121]⟩)) H K) ∧
 (¬ (x0 = ⟨#[97, 114, 114, 97, 121]⟩) →
 (x0 = ⟨#[105, 102]⟩ →
 s6 (decide (x0 = ⟨#[105, 102]⟩)) H K) ∧
 (¬ (x0 = ⟨#[105, 102]⟩) →
 (x0 = ⟨#[101, 108, 115, 101]⟩ →
 s6 (decide (x0 = ⟨#[101, 108, 115, 101]⟩)) H K) ∧
 (¬ (x0 = ⟨#[101, 108, 115, 101]⟩) →
 (x0 = ⟨#[119, 104, 105, 108, 101]⟩ →
 s6 (decide (x0 = ⟨#[119, 104, 105, 108, 101]⟩)) H K) ∧
 (¬ (x0 = ⟨#[119, 104, 105, 108, 101]⟩) →
 (x0 = ⟨#[97, 115, 115, 101, 114, 116]⟩ →
 s6 (decide (x0 = ⟨#[97, 115, 115, 101, 114, 116]⟩)) H K) ∧
 (¬ (x0 = ⟨#[97, 115, 115, 101, 114, 116]⟩) →
 (x0 = ⟨#[97, 115, 115, 117, 109, 101]⟩ →
 s6 (decide (x0 = ⟨#[97, 115, 115, 117, 109, 101]⟩)) H K) ∧
 (¬ (x0 = ⟨#[97, 115, 115, 117, 109, 101]⟩) →
 (x0 = ⟨#[115, 107, 105, 112]⟩ →
 s6 (decide (x0 = ⟨#[115, 107, 105, 112]⟩)) H K) ∧
 (¬ (x0 = ⟨#[115, 107, 105, 112]⟩) →
 (x0 = ⟨#[105, 110, 112, 117, 116]⟩ →
 s6 (decide (x0 = ⟨#[105, 110, 112, 117, 116]⟩)) H K) ∧
 (¬ (x0 = ⟨#[105, 110, 112, 117, 116]⟩) →
 (x0 = ⟨#[116, 114, 117, 101]⟩ →
 s6 (decide (x0 = ⟨#[116, 114, 117, 101]⟩)) H K) ∧
 (¬ (x0 = ⟨#[116, 114, 117, 101]⟩) →
 s6 (decide (x0 = ⟨#[102, 97, 108, 115, 101]⟩)) H K))))))))))
theorem b0A (x0) {H K} (h : a4Y x0 H K) : a0l x0 H K := by
 refine Ct.of fun w0 w ps0 H0 R E I hR => c2k ?_
 unfold a4Y at h
 unfold c5g
 have hj1 : ∀ (B5 : Bool) H w (_ : Inv w0 ps0 H0 H [] w) (_ : s6 B5 H K), b2w (vB B5) w R E := by
  intro B5 H w I h
  unfold b2w
  intro _
  unfold s6 at h
  refine p7 h (fun _ h => ?_) (fun _ h => ?_)
  ·exact hR _ H _ _ I ⟨true, rfl, rfl, h⟩
  ·exact hR _ H _ _ I ⟨false, rfl, rfl, h⟩
 refine z8 fun j1 hx1 => ?_
 refine a7 (R9 _ _ _ _ _) ?_
 refine m6 h (fun _ h => ?_) (fun _ h => ?_)
 ·exact hx1 _ _ (hj1 (decide (x0 = ⟨#[118, 97, 114]⟩)) H _ I h)
 ·refine a7 (R9 _ _ _ _ _) ?_
  refine m6 h (fun _ h => ?_) (fun _ h => ?_)
  ·exact hx1 _ _ (hj1 (decide (x0 = ⟨#[97, 114, 114, 97, 121]⟩)) H _ I h)
  ·refine a7 (R9 _ _ _ _ _) ?_
   refine m6 h (fun _ h => ?_) (fun _ h => ?_)
   ·exact hx1 _ _ (hj1 (decide (x0 = ⟨#[105, 102]⟩)) H _ I h)
   ·refine a7 (R9 _ _ _ _ _) ?_
    refine m6 h (fun _ h => ?_) (fun _ h => ?_)
    ·exact hx1 _ _ (hj1 (decide (x0 = ⟨#[101, 108, 115, 101]⟩)) H _ I h)
    ·refine a7 (R9 _ _ _ _ _) ?_
     refine m6 h (fun _ h => ?_) (fun _ h => ?_)
     ·exact hx1 _ _ (hj1 (decide (x0 = ⟨#[119, 104, 105, 108, 101]⟩)) H _ I h)
     ·refine a7 (R9 _ _ _ _ _) ?_
      refine m6 h (fun _ h => ?_) (fun _ h => ?_)
      ·exact hx1 _ _ (hj1 (decide (x0 = ⟨#[97, 115, 115, 101, 114, 116]⟩)) H _ I h)
      ·refine a7 (R9 _ _ _ _ _) ?_
       refine m6 h (fun _ h => ?_) (fun _ h => ?_)
       ·exact hx1 _ _ (hj1 (decide (x0 = ⟨#[97, 115, 115, 117, 109, 101]⟩)) H _ I h)
       ·refine a7 (R9 _ _ _ _ _) ?_
        refine m6 h (fun _ h => ?_) (fun _ h => ?_)
        ·exact hx1 _ _ (hj1 (decide (x0 = ⟨#[115, 107, 105, 112]⟩)) H _ I h)
        ·refine a7 (R9 _ _ _ _ _) ?_
         refine m6 h (fun _ h => ?_) (fun _ h => ?_)
         ·exact hx1 _ _ (hj1 (decide (x0 = ⟨#[105, 110, 112, 117, 116]⟩)) H _ I h)
         ·refine a7 (R9 _ _ _ _ _) ?_
          refine m6 h (fun _ h => ?_) (fun _ h => ?_)
          ·exact hx1 _ _ (hj1 (decide (x0 = ⟨#[116, 114, 117, 101]⟩)) H _ I h)
          ·refine a7 (R9 _ _ _ _ _) ?_
           exact hx1 _ _ (hj1 (decide (x0 = ⟨#[102, 97, 108, 115, 101]⟩)) H _ I h)
def U0 (H : Hp) (K : Int → Hp → Prop) : Prop :=
 K (-1) H
def U1 (c6Y : (List ByteArray)) (a0g : ByteArray) (A4 : Int) (B9 : Int) (H : Hp) (n2 : Int → Hp → Prop) (K : Int → Hp → Prop) : Prop :=
 (B9 < A4 →
 (0 : Int) ≤ B9 ∧ ∃ a : ByteArray, (c6Y)[(B9 : Int).toNat]? = some a ∧
 (a0g = a →
 K B9 H) ∧
 (¬ (a0g = a) →
 n2 (IntKind.wrap .i64 (B9 + 1)) H)) ∧
 (¬ (B9 < A4) →
 U0 H K)
def a0F (x0 : (List ByteArray)) (x1 : ByteArray) (H : Hp) (K : Int → Hp → Prop) : Prop :=
 TL (0 : Int) H fun (s : Int) H n2 => U1 x0 x1 (x0.length : Int) s H n2 K
theorem a6j (x0 x1) {H K} (h : a0F x0 x1 H K) : a0v x0 x1 H K := by
 intro sx0 Fx0 hx0
 refine Ct.of fun w0 w ps0 H0 R E I hR => c2n ?_
 unfold a0F at h
 unfold c5j
 have hj1 : ∀ H w (_ : Inv w0 ps0 H0 H [Fx0] w) (_ : U0 H K), b2x w R E := by
  intro H w I h
  unfold b2x
  intro _
  unfold U0 at h
  exact hR _ H _ _ I ⟨(-1), rfl, rfl, h⟩
 refine z8 fun j1 hx1 => ?_
 refine a7 (b1o Tryz.underlying77 hx0) ?_
 obtain ⟨d, c, j, k⟩ := h
 refine G7 (J := fun n l w => ∃ (s : Int) (H : Hp) , n = c s ∧ l = [(vi s)] ∧ Inv w0 ps0 H0 H [Fx0] w ∧ d s H) ⟨_, 0, H, rfl, rfl, I, j⟩ ?_
 rintro p q w next2 ⟨B9, H, rfl, f, I, m⟩ hn2
 simp only [List.map_cons, List.map_nil, List.cons.injEq, and_true] at f
 have e8 := f
 simp only [e8]
 obtain ⟨n2, hm2, h⟩ : ∃ n2 : Int → Hp → Prop, (∀ s' H', n2 s' H' → d s' H' ∧ c s' < c B9) ∧ U1 x0 x1 (x0.length : Int) B9 H n2 K := ⟨_, fun _ _ h => h, k B9 H (fun s' H' => d s' H' ∧ c s' < c B9) m (fun _ _ a b => ⟨a, b⟩)⟩
 unfold b6v
 unfold U1 at h
 refine a7 pLs ?_
 refine m6 h (fun _ h => ?_) (fun _ h => ?_)
 ·obtain ⟨g, o, e, h⟩ := h
  obtain ⟨r, t, i, u⟩ := hx0.addr e
  refine a7 (b4o i _ _ _ _ g (hx0.lt g e)) (g6 (ld1 (v := (Value.string o)) Tryz.isAgg9 (hx0.atW I i e)) (a7 (R9 _ _ _ _ _) ?_))
  refine m6 h (fun _ h => ?_) (fun _ h => ?_)
  ·exact hR _ H _ _ I ⟨B9, rfl, rfl, h⟩
  ·refine a7 pAd ?_
   exact hn2 _ _ _ (hm2 _ _ h).2 ⟨(IntKind.wrap .i64 (B9 + 1)), H, rfl, rfl, I, (hm2 _ _ h).1⟩
 ·exact hx1 _ _ (hj1 H _ I h)
def Z5 (x0 : (List ByteArray)) (x1 : ByteArray) (H : Hp) (K : Bool → Hp → Prop) : Prop :=
 a0v x0 x1 H (fun a b =>
 K (decide (0 ≤ a)) b)
theorem a5A (x0 x1) {H K} (h : Z5 x0 x1 H K) : O1 x0 x1 H K := by
 intro sx0 Fx0 hx0
 refine Ct.of fun w0 w ps0 H0 R E I hR => c2f ?_
 unfold Z5 at h
 unfold c5b
 refine g9 Tryz.call161 (h sx0 Fx0 hx0) I ?_
 rintro _ a _ d b _ _ ⟨c, rfl, rfl, h⟩
 refine a7 pGe ?_
 exact hR _ a _ _ b ⟨(decide (0 ≤ c)), rfl, rfl, h⟩
def M6 (d : Int) (e : Int) (f : Int) (g : Bool) (i : Bool) (j : (List ByteArray)) (H : Hp) (K : m8 → Hp → Prop) : Prop :=
 ∀ (a : Sl) (b : Hp), Hle H b → SlH b 1 K2 a j → a.n ≤ a.c →
 K (m8.mk d e f g i a) b
def a3N (x0 : Sl) (H : Hp) (K : m8 → Hp → Prop) : Prop :=
 X6 x0 1 (m8.mk 0 0 0 false false (Sl.mk none 0 0)) [] H (fun d a b c =>
 ((!d) = true →
 M6 a.fnodes a.fdepth a.fe a.fform a.fnamed b c K) ∧
 ((!d) = false →
 (a.fform = true →
 M6 a.fnodes a.fdepth 30 a.fform a.fnamed b c K) ∧
 (a.fform = false →
 (a.fnamed = true →
 M6 a.fnodes a.fdepth 31 a.fform a.fnamed b c K) ∧
 (a.fnamed = false →
 M6 a.fnodes a.fdepth a.fe a.fform a.fnamed b c K))))
theorem a8S (x0) {H K} (h : a3N x0 H K) : a3E x0 H K := by
 refine Ct.of fun w0 w ps0 H0 R E I hR => c4g ?_
 unfold a3N at h
 unfold F74
 refine a7 (b8p ) ?_
 refine T7 I (cs := [(vi 0), (vi 0), (vi 0), (vB false), (vB false), (nS)]) rfl fun d aj y ak => ?_
 refine p6 y Tryz.zeroValue80 (cs := [(Value.pointer none)]) rfl fun c al z am => ?_
 refine i6 z Tryz.sizeOf80 (vs := [(Value.pointer (some ⟨d, 0, none⟩))]) (cs' := [(Value.pointer (some ⟨d, 0, none⟩))]) rfl rfl (nb rfl) rfl rfl fun an aa ao => ?_
 refine p6 aa Tryz.zeroValue169 (cs := [Value.nilFunc]) rfl fun f ap ab aq => ?_
 refine a7 (Z6 _ _ _) ?_
 refine i6 ab Tryz.sizeOf169 (vs := [(Value.func (.func 118) #[] #[(Value.pointer (some ⟨c, 0, none⟩)), (Value.pointer (some ⟨f, 0, none⟩))])]) (cs' := [(Value.func (.func 118) #[] #[(Value.pointer (some ⟨c, 0, none⟩)), (Value.pointer (some ⟨f, 0, none⟩))])]) rfl rfl (nb rfl) rfl rfl fun ar u au => ?_
 have hj1 : ∀ (j : Int) (k : Int) (l : Int) (m : Bool) (n : Bool) (s : (List ByteArray)) (i : Sl) (t : Frag) H w (_ : RowL 9 1 K2 i s t) (_ : Inv w0 ps0 H0 H [bx c 80 [(Value.pointer (some ⟨d, 0, none⟩))], bx d 79 [(vi j), (vi k), (vi l), (vB m), (vB n), (vs i)], bx f 169 [(Value.func (.func 118) #[] #[(Value.pointer (some ⟨c, 0, none⟩)), (Value.pointer (some ⟨f, 0, none⟩))])], t] w) (_ : M6 j k l m n s H K), b4C (Value.pointer (some ⟨c, 0, none⟩)) w R E := by
  intro j k l m n s i t H w ac I h
  unfold b4C
  intro _
  unfold M6 at h
  refine g6 (l1 Tryz.isAgg80 I rfl) ?_
  obtain ⟨v, ad, ae, af, ag⟩ := Inv.freezeC (I.bring 3) ac (by decide)
  replace h := h i v ae af ag
  exact hR _ v _ _ (ad.drop.bring 1).drop ⟨(m8.mk j k l m n i), d, rfl, rfl, h⟩
 refine z8 fun j1 hx1 => ?_
 refine g6 (l1 Tryz.isAgg169 u rfl) ?_
 refine a5C (cap := [(Value.pointer (some ⟨c, 0, none⟩)), (Value.pointer (some ⟨f, 0, none⟩))]) Tryz.call118 (h c d f (Sl.mk none 0 0) ([]) (RowL.nil (e := 9) a6r a6s)) ((((u.nil.bring 1).bring 1).bring 3).bring 3) ?_
 rintro _ o _ av b _ _ ⟨aw, a, p, g, q, rfl, rfl, r, h⟩
 refine a7 (T2 _) ?_
 refine p7 h (fun _ h => ?_) (fun _ h => ?_)
 ·exact hx1 _ _ (hj1 a.fnodes a.fdepth a.fe a.fform a.fnamed p g q o _ r ((((b.bring 2).bring 3).bring 3).bring 3) h)
 ·refine g6 (l1 Tryz.isAgg80 b rfl) (a7 (u2 _) (a7 a8H (g6 (l1 Tryz.isAgg4 (b.bring 1) rfl) ?_)))
  refine p7 h (fun _ h => ?_) (fun _ h => ?_)
  ·refine g6 (l1 Tryz.isAgg80 b rfl) (a7 (u2 _) (a7 a5F ?_))
   refine i6 (b.bring 1) Tryz.sizeOf29 (vs := [(vi 30)]) (cs' := [(vi a.fnodes), (vi a.fdepth), (vi 30), (vB a.fform), (vB a.fnamed), (vs g)]) rfl rfl (nb rfl) rfl rfl fun ax ah ay => ?_
   exact hx1 _ _ (hj1 a.fnodes a.fdepth 30 a.fform a.fnamed p g q o _ r ((((ah.bring 2).bring 3).bring 2).bring 3) h)
  ·refine g6 (l1 Tryz.isAgg80 b rfl) (a7 (u2 _) (a7 a8I (g6 (l1 Tryz.isAgg4 (b.bring 1) rfl) ?_)))
   refine p7 h (fun _ h => ?_) (fun _ h => ?_)
   ·refine g6 (l1 Tryz.isAgg80 b rfl) (a7 (u2 _) (a7 a5F ?_))
    refine i6 (b.bring 1) Tryz.sizeOf29 (vs := [(vi 31)]) (cs' := [(vi a.fnodes), (vi a.fdepth), (vi 31), (vB a.fform), (vB a.fnamed), (vs g)]) rfl rfl (nb rfl) rfl rfl fun az ai ba => ?_
    exact hx1 _ _ (hj1 a.fnodes a.fdepth 31 a.fform a.fnamed p g q o _ r ((((ai.bring 2).bring 3).bring 2).bring 3) h)
   ·exact hx1 _ _ (hj1 a.fnodes a.fdepth a.fe a.fform a.fnamed p g q o _ r ((((b.bring 2).bring 3).bring 3).bring 3) h)
def a4Z (x0 : l7) (H : Hp) (K : m8 → Hp → Prop) : Prop :=
 K3 x0.a1U H (fun d e =>
 B2 x0.a0J e (fun f g =>
 ∀ (a : Sl) (b : Hp), Hle g b → SlH b 1 csl a [d, f] → a.n ≤ a.c →
 D5 a b (fun i j =>
 a3E i j (fun k l =>
 K k l))))
theorem b0B (x0) {H K} (h : a4Z x0 H K) : a4V x0 H K := by
 refine Ct.of fun w0 w ps0 H0 R E I hR => c3N ?_
 unfold a4Z at h
 unfold F32
 refine T7 I (cs := (l9 x0)) rfl fun z aa b ab => ?_
 refine W4 b fun ac a => ?_
 refine r8 a4E ?_
 refine r8 a2M ?_
 refine C4 (l1 Tryz.isAgg23 a rfl) ?_
 refine C4 (l1 Tryz.isAgg24 a rfl) ?_
 refine g9 Tryz.call76 h a ?_
 rintro _ _ _ ad d _ f ⟨g, rfl, rfl, h⟩
 refine ⟨(f _ a.lt1 (Inv.Z9 (Fi := []) a)), ?_⟩
 refine g9 Tryz.call78 h d ?_
 rintro _ _ _ ae i _ _ ⟨j, rfl, rfl, h⟩
 refine W5 (e := 128) (c := csl) (xs := [g, j]) i (b4j _ _ _ _ _ _) rfl rfl b3O b3P (nb rfl) fun k af ag l m ah => ?_
 obtain ⟨n, o, p, q, r⟩ := Inv.freezeC m l (by decide)
 replace h := h k n p q r
 refine g9 Tryz.call75 h o ?_
 rintro _ _ _ ai s _ _ ⟨aj, rfl, rfl, h⟩
 refine g9 Tryz.call74 h s ?_
 rintro _ t _ ak u _ _ ⟨v, y, rfl, rfl, h⟩
 exact hR _ t _ _ (u.bring 1).drop ⟨v, y, rfl, rfl, h⟩
def u7 (H : Hp) (K : Bool → Hp → Prop) : Prop :=
 K true H
def q9 (a0g : Sl) (a7S : Sl) (a7T : Int) (H8 : Int) (H : Hp) (n2 : Int → Hp → Prop) (K : Bool → Hp → Prop) : Prop :=
 (H8 < a7T →
 (0 : Int) ≤ H8 ∧ (H8 : Int) < a7S.n ∧ ∃ a : b9, EltH H a7S H8 4 (d9 a) ∧
 (0 : Int) ≤ H8 ∧ (H8 : Int) < a0g.n ∧ ∃ b : b9, EltH H a0g H8 4 (d9 b) ∧
 a0N a b H (fun c d =>
 ((!c) = true →
 K false d) ∧
 ((!c) = false →
 n2 (IntKind.wrap .i64 (H8 + 1)) d))) ∧
 (¬ (H8 < a7T) →
 u7 H K)
def y1 (x0 : Sl) (x1 : Sl) (H : Hp) (K : Bool → Hp → Prop) : Prop :=
 (¬ ((x0.n : Int) = (x1.n : Int)) →
 K false H) ∧
 ((x0.n : Int) = (x1.n : Int) →
 TL (0 : Int) H fun (s : Int) H n2 => q9 x1 x0 (x0.n : Int) s H n2 K)
theorem L9 (x0 x1) {H K} (h : y1 x0 x1 H K) : m9 x0 x1 H K := by
 refine Ct.of fun w0 w ps0 H0 R E I hR => c4t ?_
 unfold y1 at h
 unfold F93
 refine a7 (a3v _ _ _) (a7 (a3v _ _ _) (a7 pNe ?_))
 refine a1T h (fun _ h => ?_) (fun _ h => ?_)
 ·exact hR _ H _ _ I ⟨false, rfl, rfl, h⟩
 ·have hj1 : ∀ H w (_ : Inv w0 ps0 H0 H [] w) (_ : u7 H K), b4N w R E := by
   intro H w I h
   unfold b4N
   intro _
   unfold u7 at h
   exact hR _ H _ _ I ⟨true, rfl, rfl, h⟩
  refine z8 fun j1 hx1 => ?_
  refine a7 (a3v _ _ _) ?_
  obtain ⟨d, c, q, r⟩ := h
  refine G7 (J := fun n l w => ∃ (s : Int) (H : Hp) , n = c s ∧ l = [(vi s)] ∧ Inv w0 ps0 H0 H [] w ∧ d s H) ⟨_, 0, H, rfl, rfl, I, q⟩ ?_
  rintro ae af w next2 ⟨H8, H, rfl, k, I, t⟩ hn2
  simp only [List.map_cons, List.map_nil, List.cons.injEq, and_true] at k
  have e17 := k
  simp only [e17]
  obtain ⟨n2, hm2, h⟩ : ∃ n2 : Int → Hp → Prop, (∀ s' H', n2 s' H' → d s' H' ∧ c s' < c H8) ∧ q9 x1 x0 (x0.n : Int) H8 H n2 K := ⟨_, fun _ _ h => h, r H8 H (fun s' H' => d s' H' ∧ c s' < c H8) t (fun _ _ a b => ⟨a, b⟩)⟩
  unfold b8K
  unfold q9 at h
  refine a7 pLs ?_
  refine m6 h (fun _ h => ?_) (fun _ h => ?_)
  ·obtain ⟨u, v, e, f, h⟩ := h
   obtain ⟨ag, ah, y, f⟩ := f
   refine a7 (a8D y _ _ _ _ u v) (g6 (ldA (vs := (d9 e)) Tryz.isAgg40 Tryz.sizeOf40 rfl (I.atH f)) ?_)
   refine p6 I Tryz.zeroValue40 (cs := [(vi 0), (vi 0), (eS), (nS)]) rfl fun ai aj z ak => ?_
   refine i6 z Tryz.sizeOf40 (vs := (d9 e)) (cs' := (d9 e)) rfl rfl (nb rfl) rfl rfl fun al m am => ?_
   obtain ⟨aa, ab, g, i, h⟩ := h
   obtain ⟨an, ao, ac, i⟩ := i
   refine a7 (a8D ac _ _ _ _ aa ab) (g6 (ldA (vs := (d9 g)) Tryz.isAgg40 Tryz.sizeOf40 rfl (m.atH i)) ?_)
   refine p6 m Tryz.zeroValue40 (cs := [(vi 0), (vi 0), (eS), (nS)]) rfl fun ap aq ad ar => ?_
   refine i6 ad Tryz.sizeOf40 (vs := (d9 g)) (cs' := (d9 g)) rfl rfl (nb rfl) rfl rfl fun au j av => ?_
   refine g6 (lW Tryz.isAgg40 Tryz.sizeOf40 rfl (j.bring 1)) (g6 (lW Tryz.isAgg40 Tryz.sizeOf40 rfl j) ?_)
   refine g9 Tryz.call94 h j ?_
   rintro _ o _ aw p _ _ ⟨ax, rfl, rfl, h⟩
   refine a7 (T2 _) ?_
   refine p7 h (fun _ h => ?_) (fun _ h => ?_)
   ·exact hR _ o _ _ p.drop.drop ⟨false, rfl, rfl, h⟩
   ·refine a7 pAd ?_
    exact hn2 _ _ _ (hm2 _ _ h).2 ⟨(IntKind.wrap .i64 (H8 + 1)), o, rfl, rfl, p.drop.drop, (hm2 _ _ h).1⟩
  ·exact hx1 _ _ (hj1 H _ I h)
def v6 (H : Hp) (K : Bool → Hp → Prop) : Prop :=
 K true H
def r7 (a0g : Sl) (a7S : Sl) (a7T : Int) (H8 : Int) (H : Hp) (n2 : Int → Hp → Prop) (K : Bool → Hp → Prop) : Prop :=
 (H8 < a7T →
 (0 : Int) ≤ H8 ∧ (H8 : Int) < a7S.n ∧ ∃ a : g5, EltH H a7S H8 6 (l8 a) ∧
 (0 : Int) ≤ H8 ∧ (H8 : Int) < a0g.n ∧ ∃ b : g5, EltH H a0g H8 6 (l8 b) ∧
 a0P a b H (fun c d =>
 ((!c) = true →
 K false d) ∧
 ((!c) = false →
 n2 (IntKind.wrap .i64 (H8 + 1)) d))) ∧
 (¬ (H8 < a7T) →
 v6 H K)
def y2 (x0 : Sl) (x1 : Sl) (H : Hp) (K : Bool → Hp → Prop) : Prop :=
 (¬ ((x0.n : Int) = (x1.n : Int)) →
 K false H) ∧
 ((x0.n : Int) = (x1.n : Int) →
 TL (0 : Int) H fun (s : Int) H n2 => r7 x1 x0 (x0.n : Int) s H n2 K)
theorem M0 (x0 x1) {H K} (h : y2 x0 x1 H K) : d6 x0 x1 H K := by
 refine Ct.of fun w0 w ps0 H0 R E I hR => c3U ?_
 unfold y2 at h
 unfold F47
 refine a7 (a3u _ _ _) (a7 (a3u _ _ _) (a7 pNe ?_))
 refine a1T h (fun _ h => ?_) (fun _ h => ?_)
 ·exact hR _ H _ _ I ⟨false, rfl, rfl, h⟩
 ·have hj1 : ∀ H w (_ : Inv w0 ps0 H0 H [] w) (_ : v6 H K), b4v w R E := by
   intro H w I h
   unfold b4v
   intro _
   unfold v6 at h
   exact hR _ H _ _ I ⟨true, rfl, rfl, h⟩
  refine z8 fun j1 hx1 => ?_
  refine a7 (a3u _ _ _) ?_
  obtain ⟨d, c, q, r⟩ := h
  refine G7 (J := fun n l w => ∃ (s : Int) (H : Hp) , n = c s ∧ l = [(vi s)] ∧ Inv w0 ps0 H0 H [] w ∧ d s H) ⟨_, 0, H, rfl, rfl, I, q⟩ ?_
  rintro ae af w next2 ⟨H8, H, rfl, k, I, t⟩ hn2
  simp only [List.map_cons, List.map_nil, List.cons.injEq, and_true] at k
  have e17 := k
  simp only [e17]
  obtain ⟨n2, hm2, h⟩ : ∃ n2 : Int → Hp → Prop, (∀ s' H', n2 s' H' → d s' H' ∧ c s' < c H8) ∧ r7 x1 x0 (x0.n : Int) H8 H n2 K := ⟨_, fun _ _ h => h, r H8 H (fun s' H' => d s' H' ∧ c s' < c H8) t (fun _ _ a b => ⟨a, b⟩)⟩
  unfold b8z
  unfold r7 at h
  refine a7 pLs ?_
  refine m6 h (fun _ h => ?_) (fun _ h => ?_)
  ·obtain ⟨u, v, e, f, h⟩ := h
   obtain ⟨ag, ah, y, f⟩ := f
   refine a7 (a7q y _ _ _ _ u v) (g6 (ldA (vs := (l8 e)) Tryz.isAgg56 Tryz.sizeOf56 rfl (I.atH f)) ?_)
   refine p6 I Tryz.zeroValue56 (cs := [(vi 0), (eS), (nS), (nS), (nS), (nS)]) rfl fun ai aj z ak => ?_
   refine i6 z Tryz.sizeOf56 (vs := (l8 e)) (cs' := (l8 e)) rfl rfl (nb rfl) rfl rfl fun al m am => ?_
   obtain ⟨aa, ab, g, i, h⟩ := h
   obtain ⟨an, ao, ac, i⟩ := i
   refine a7 (a7q ac _ _ _ _ aa ab) (g6 (ldA (vs := (l8 g)) Tryz.isAgg56 Tryz.sizeOf56 rfl (m.atH i)) ?_)
   refine p6 m Tryz.zeroValue56 (cs := [(vi 0), (eS), (nS), (nS), (nS), (nS)]) rfl fun ap aq ad ar => ?_
   refine i6 ad Tryz.sizeOf56 (vs := (l8 g)) (cs' := (l8 g)) rfl rfl (nb rfl) rfl rfl fun au j av => ?_
   refine g6 (lW Tryz.isAgg56 Tryz.sizeOf56 rfl (j.bring 1)) (g6 (lW Tryz.isAgg56 Tryz.sizeOf56 rfl j) ?_)
   refine g9 Tryz.call48 h j ?_
   rintro _ o _ aw p _ _ ⟨ax, rfl, rfl, h⟩
   refine a7 (T2 _) ?_
   refine p7 h (fun _ h => ?_) (fun _ h => ?_)
   ·exact hR _ o _ _ p.drop.drop ⟨false, rfl, rfl, h⟩
   ·refine a7 pAd ?_
    exact hn2 _ _ _ (hm2 _ _ h).2 ⟨(IntKind.wrap .i64 (H8 + 1)), o, rfl, rfl, p.drop.drop, (hm2 _ _ h).1⟩
  ·exact hx1 _ _ (hj1 H _ I h)
def V1 [PanQ] (b0U : Int) (u5 : a8) (H : Hp) (K : Hp → Prop) : Prop :=
 (40 < b0U →
 B1 u5 H (fun a b =>
 PanQ.q (Value.iface 98 (Value.agg #[(vi a.fAt.D9), (vi a.fAt.L6), (vi 41)])))) ∧
 (¬ (40 < b0U) →
 K H)
def a3x [PanQ] (x0 : a8) (x1 : Int) (x2 : Bool) (H : Hp) (K : Hp → Prop) : Prop :=
 ((!x2) = true →
 D8 x0 H (fun a =>
 V1 x1 x0 a K)) ∧
 ((!x2) = false →
 V1 x1 x0 H K)
theorem a6H [PanQ] (x0 : a8) (x1 : Int) (x2 : Bool) {H : Hp} {K : Hp → Prop} (h : a3x x0 x1 x2 H K) : C2 x0 x1 x2 H K := by
 intro g0
 refine Ct.ofE fun w0 w ps0 H0 R E I hR hE => c4b ?_
 unfold a3x at h
 unfold F55
 have hj1 : ∀ H w (_ : Inv w0 ps0 H0 H [bx g0 101 (b7 x0)] w) (_ : V1 x1 x0 H K), b4y (Value.pointer (some ⟨g0, 0, none⟩)) (vi x1) w R E := by
  intro H w I h
  unfold b4y
  intro _
  unfold V1 at h
  refine a7 pGt ?_
  refine m6 h (fun _ h => ?_) (fun _ h => ?_)
  ·refine g9 Tryz.call51 (h g0) I ?_
   rintro _ _ _ d a _ _ ⟨e, rfl, rfl, h⟩
   refine a7 a9A (a7 (a9k _ _ _) (a7 (b0D _ _ _) ?_))
   exact a7O (hE _ _ _ _ a ⟨_, rfl, h⟩)
  ·exact hR _ H _ _ I ⟨rfl, rfl, h⟩
 refine z8 fun j1 hx1 => ?_
 refine a7 (T2 _) ?_
 refine p7 h (fun _ h => ?_) (fun _ h => ?_)
 ·refine A0 hE Tryz.call52 (h g0) I ?_
  rintro _ b _ f c _ _ ⟨rfl, rfl, h⟩
  exact hx1 _ _ (hj1 b _ c h)
 ·exact hx1 _ _ (hj1 H _ I h)
def M8 [PanQ] (d : Int) (e : ByteArray) (f : Sl) (g : (List f8)) (i : Sl) (j : Sl) (a5N : a8) (k : b5) (l : g5) (H : Hp) (K : g5 → a8 → Hp → Prop) : Prop :=
 ∀ (a : Sl) (b : Hp), Hle H b → SlH b 4 g8 a g → a.n ≤ a.c →
 K (g5.mk d e f a i j) a5N b
def E7 [PanQ] (f : Int) (g : ByteArray) (i : (List b9)) (j : (List f8)) (k : Sl) (l : Sl) (u5 : a8) (p : b5) (q : g5) (H : Hp) (K : g5 → a8 → Hp → Prop) : Prop :=
 B8 u5 ⟨#[59]⟩ H (fun m o =>
 ∀ (a : Sl) (d : Hp), Hle o d → SlH d 4 d9 a i → a.n ≤ a.c →
 ∀ (b : Sl) (e : Hp), Hle d e → SlH e 4 g8 b j → b.n ≤ b.c →
 K (g5.mk f g a b k l) m e)
def M9 [PanQ] (c8s : Int) (c : Int) (d : ByteArray) (a : (List b9)) (e : (List f8)) (f : Sl) (g : Sl) (a4j : a8) (i : b5) (j : g5) (H : Hp) (K : g5 → a8 → Hp → Prop) : Prop :=
 B8 a4j ⟨#[61]⟩ H (fun k l =>
 O8 k c8s l (fun b m n =>
 (a.length + ([b] : List b9).length) * 57 ≤ 140737488355328 ∧
 E7 c d (a ++ [b]) e f g m i j n K))
def a1D [PanQ] (x0 : a8) (x1 : Int) (H : Hp) (K : g5 → a8 → Hp → Prop) : Prop :=
 O9 x0 H (fun a b d =>
 (a.c8 = 1 →
 u0 b ⟨#[91]⟩ d (fun g i j =>
 (g = true →
 S7 i x1 ⟨#[93]⟩ j (fun k r s =>
 (([] : List b9).length + ([k] : List b9).length) * 57 ≤ 140737488355328 ∧
 M9 x1 2 a.B6 [k] [] (Sl.mk none 0 0) (Sl.mk none 0 0) r a (g5.mk 0 ⟨#[]⟩ (Sl.mk none 0 0) (Sl.mk none 0 0) (Sl.mk none 0 0) (Sl.mk none 0 0)) s K)) ∧
 (g = false →
 M9 x1 1 a.B6 [] [] (Sl.mk none 0 0) (Sl.mk none 0 0) i a (g5.mk 0 ⟨#[]⟩ (Sl.mk none 0 0) (Sl.mk none 0 0) (Sl.mk none 0 0) (Sl.mk none 0 0)) j K))) ∧
 (¬ (a.c8 = 1) →
 (a.B6 = ⟨#[105, 102]⟩ →
 M4 b x1 d (fun l t u =>
 S8 t x1 u (fun m v y =>
 u0 v ⟨#[101, 108, 115, 101]⟩ y (fun o p q =>
 (o = true →
 S8 p x1 q (fun z aa ab =>
 M8 3 ⟨#[]⟩ (Sl.mk none 0 0) [l] m z aa a (g5.mk 0 ⟨#[]⟩ (Sl.mk none 0 0) (Sl.mk none 0 0) (Sl.mk none 0 0) (Sl.mk none 0 0)) ab K)) ∧
 (o = false →
 M8 3 ⟨#[]⟩ (Sl.mk none 0 0) [l] m (Sl.mk none 0 0) p a (g5.mk 0 ⟨#[]⟩ (Sl.mk none 0 0) (Sl.mk none 0 0) (Sl.mk none 0 0) (Sl.mk none 0 0)) q K))))) ∧
 (¬ (a.B6 = ⟨#[105, 102]⟩) →
 (a.B6 = ⟨#[119, 104, 105, 108, 101]⟩ →
 M4 b x1 d (fun ac ad ae =>
 S8 ad x1 ae (fun af ag ah =>
 ∀ (e : Sl) (f : Hp), Hle ah f → SlH f 4 g8 e [ac] → e.n ≤ e.c →
 K (g5.mk 4 ⟨#[]⟩ (Sl.mk none 0 0) e af (Sl.mk none 0 0)) ag f))) ∧
 (¬ (a.B6 = ⟨#[119, 104, 105, 108, 101]⟩) →
 (a.B6 = ⟨#[97, 115, 115, 101, 114, 116]⟩ →
 M4 b x1 d (fun ai aj ak =>
 E7 5 ⟨#[]⟩ [] [ai] (Sl.mk none 0 0) (Sl.mk none 0 0) aj a (g5.mk 0 ⟨#[]⟩ (Sl.mk none 0 0) (Sl.mk none 0 0) (Sl.mk none 0 0) (Sl.mk none 0 0)) ak K)) ∧
 (¬ (a.B6 = ⟨#[97, 115, 115, 101, 114, 116]⟩) →
 (a.B6 = ⟨#[97, 115, 115, 117, 109, 101]⟩ →
 M4 b x1 d (fun al am an =>
 E7 6 ⟨#[]⟩ [] [al] (Sl.mk none 0 0) (Sl.mk none 0 0) am a (g5.mk 0 ⟨#[]⟩ (Sl.mk none 0 0) (Sl.mk none 0 0) (Sl.mk none 0 0) (Sl.mk none 0 0)) an K)) ∧
 (¬ (a.B6 = ⟨#[97, 115, 115, 117, 109, 101]⟩) →
 E7 7 ⟨#[]⟩ [] [] (Sl.mk none 0 0) (Sl.mk none 0 0) b a (g5.mk 0 ⟨#[]⟩ (Sl.mk none 0 0) (Sl.mk none 0 0) (Sl.mk none 0 0) (Sl.mk none 0 0)) d K))))))
theorem a6T [PanQ] (x0 : a8) (x1 : Int) {H : Hp} {K : g5 → a8 → Hp → Prop} (h : a1D x0 x1 H K) : T5 x0 x1 H K := by
 intro g0
 refine Ct.ofE fun w0 w ps0 H0 R E I hR hE => c4d ?_
 unfold a1D at h
 unfold F57
 refine p6 I Tryz.zeroValue56 (cs := [(vi 0), (eS), (nS), (nS), (nS), (nS)]) rfl fun z fp bw fq => ?_
 refine p6 bw Tryz.zeroValue56 (cs := [(vi 0), (eS), (nS), (nS), (nS), (nS)]) rfl fun aa fs bz ft => ?_
 refine A0 hE Tryz.call104 (h g0) (bz.bring 2) ?_
 rintro _ ca _ fu cb _ _ ⟨b, cc, rfl, rfl, h⟩
 refine p6 cb Tryz.zeroValue103 (cs := [(vi 0), (eS), (vi 0), (vi 0), (vi 0)]) rfl fun an fv cd fw => ?_
 refine i6 cd Tryz.sizeOf103 (vs := (f9 b)) (cs' := (f9 b)) rfl rfl (nb rfl) rfl rfl fun fx d fy => ?_
 have hj1 : ∀ (k : Int) (l : ByteArray) (ao : (List b9)) (ap : (List f8)) (m : Sl) (p : Sl) (u5 : a8) (g : Sl) (aq : Frag) (i : Sl) (ar : Frag) H w (_ : RowL 40 4 d9 g ao aq) (_ : RowL 49 4 g8 i ap ar) (_ : Inv w0 ps0 H0 H [bx aa 56 [(vi k), (Value.string l), (vs g), (vs i), (vs m), (vs p)], bx g0 101 (b7 u5), bx an 103 (f9 b), bx z 56 [(vi (g5.mk 0 ⟨#[]⟩ (Sl.mk none 0 0) (Sl.mk none 0 0) (Sl.mk none 0 0) (Sl.mk none 0 0)).c8), (Value.string (g5.mk 0 ⟨#[]⟩ (Sl.mk none 0 0) (Sl.mk none 0 0) (Sl.mk none 0 0) (Sl.mk none 0 0)).o9), (Value.slice (g5.mk 0 ⟨#[]⟩ (Sl.mk none 0 0) (Sl.mk none 0 0) (Sl.mk none 0 0) (Sl.mk none 0 0)).m7.a (g5.mk 0 ⟨#[]⟩ (Sl.mk none 0 0) (Sl.mk none 0 0) (Sl.mk none 0 0) (Sl.mk none 0 0)).m7.n (g5.mk 0 ⟨#[]⟩ (Sl.mk none 0 0) (Sl.mk none 0 0) (Sl.mk none 0 0) (Sl.mk none 0 0)).m7.c), (Value.slice (g5.mk 0 ⟨#[]⟩ (Sl.mk none 0 0) (Sl.mk none 0 0) (Sl.mk none 0 0) (Sl.mk none 0 0)).A6.a (g5.mk 0 ⟨#[]⟩ (Sl.mk none 0 0) (Sl.mk none 0 0) (Sl.mk none 0 0) (Sl.mk none 0 0)).A6.n (g5.mk 0 ⟨#[]⟩ (Sl.mk none 0 0) (Sl.mk none 0 0) (Sl.mk none 0 0) (Sl.mk none 0 0)).A6.c), (Value.slice (g5.mk 0 ⟨#[]⟩ (Sl.mk none 0 0) (Sl.mk none 0 0) (Sl.mk none 0 0) (Sl.mk none 0 0)).L5.a (g5.mk 0 ⟨#[]⟩ (Sl.mk none 0 0) (Sl.mk none 0 0) (Sl.mk none 0 0) (Sl.mk none 0 0)).L5.n (g5.mk 0 ⟨#[]⟩ (Sl.mk none 0 0) (Sl.mk none 0 0) (Sl.mk none 0 0) (Sl.mk none 0 0)).L5.c), (Value.slice (g5.mk 0 ⟨#[]⟩ (Sl.mk none 0 0) (Sl.mk none 0 0) (Sl.mk none 0 0) (Sl.mk none 0 0)).I0.a (g5.mk 0 ⟨#[]⟩ (Sl.mk none 0 0) (Sl.mk none 0 0) (Sl.mk none 0 0) (Sl.mk none 0 0)).I0.n (g5.mk 0 ⟨#[]⟩ (Sl.mk none 0 0) (Sl.mk none 0 0) (Sl.mk none 0 0) (Sl.mk none 0 0)).I0.c)], aq, ar] w) (_ : E7 k l ao ap m p u5 b (g5.mk 0 ⟨#[]⟩ (Sl.mk none 0 0) (Sl.mk none 0 0) (Sl.mk none 0 0) (Sl.mk none 0 0)) H K), b4z (Value.pointer (some ⟨g0, 0, none⟩)) (Value.pointer (some ⟨z, 0, none⟩)) (Value.pointer (some ⟨aa, 0, none⟩)) w R E := by
  intro k l ao ap m p u5 g aq i ar H w ce cf I h
  unfold b4z
  intro _
  unfold E7 at h
  refine A0 hE Tryz.call103 (h g0) (I.bring 1) ?_
  rintro _ _ _ fz bb _ _ ⟨cg, rfl, rfl, h⟩
  refine g6 (ldA Tryz.isAgg56 Tryz.sizeOf56 rfl ((bb.bring 1).at1 (o := 0) (vs := [(vi k), (Value.string l), (vs g), (vs i), (vs m), (vs p)]) (nb rfl) rfl)) ?_
  refine i6 (bb.bring 3) Tryz.sizeOf56 (vs := [(vi k), (Value.string l), (vs g), (vs i), (vs m), (vs p)]) (cs' := [(vi k), (Value.string l), (vs g), (vs i), (vs m), (vs p)]) rfl rfl (nb rfl) rfl rfl fun ga bc gb => ?_
  refine A5 Tryz.isAgg56 Tryz.sizeOf56 rfl (bc.at1 (o := 0) (vs := [(vi k), (Value.string l), (vs g), (vs i), (vs m), (vs p)]) (nb rfl) rfl) ?_
  obtain ⟨ch, ci, cj, ck, cl⟩ := Inv.freezeC (bc.bring 4) ce (by decide)
  replace h := h g ch cj ck cl
  obtain ⟨bd, cm, cn, co, cp⟩ := Inv.freezeC (ci.bring 4) cf (by decide)
  replace h := h i bd cn co cp
  exact hR _ bd _ _ ((cm.drop.bring 1).drop.bring 1).drop ⟨(g5.mk k l g i m p), cg, rfl, rfl, h⟩
 refine z8 fun j1 hx1 => ?_
 refine a7 a0L (g6 (l1 Tryz.isAgg3 d rfl) (a7 pEq ?_))
 refine m6 h (fun _ h => ?_) (fun _ h => ?_)
 ·refine W4 d fun gc au => ?_
  refine r8 S3 ?_
  refine r8 X9 ?_
  refine C4 (l1 Tryz.isAgg9 au rfl) ?_
  refine i6 (au.bring 2) Tryz.sizeOf3 (vs := [(vi 1)]) (cs' := [(vi 1), (eS), (nS), (nS), (nS), (nS)]) rfl rfl (nb rfl) rfl rfl fun gd cq cr => ?_
  refine ⟨(cr _ (Inv.c7q (au.bring 2))), ?_⟩
  refine r8 a3D ?_
  refine i6 cq Tryz.sizeOf9 (vs := [(Value.string b.B6)]) (cs' := [(vi 1), (Value.string b.B6), (nS), (nS), (nS), (nS)]) rfl rfl (nb rfl) rfl rfl fun ge ct gf => ?_
  have hj2 : ∀ (ab : Int) (ac : ByteArray) (ad : (List b9)) (ai : (List f8)) (ae : Sl) (af : Sl) (a4j : a8) (aj : Sl) (av : Frag) (ag : Sl) (ak : Frag) H w (_ : RowL 40 4 d9 aj ad av) (_ : RowL 49 4 g8 ag ai ak) (_ : Inv w0 ps0 H0 H [bx aa 56 [(vi ab), (Value.string ac), (vs aj), (vs ag), (vs ae), (vs af)], bx g0 101 (b7 a4j), bx an 103 (f9 b), bx z 56 [(vi (g5.mk 0 ⟨#[]⟩ (Sl.mk none 0 0) (Sl.mk none 0 0) (Sl.mk none 0 0) (Sl.mk none 0 0)).c8), (Value.string (g5.mk 0 ⟨#[]⟩ (Sl.mk none 0 0) (Sl.mk none 0 0) (Sl.mk none 0 0) (Sl.mk none 0 0)).o9), (Value.slice (g5.mk 0 ⟨#[]⟩ (Sl.mk none 0 0) (Sl.mk none 0 0) (Sl.mk none 0 0) (Sl.mk none 0 0)).m7.a (g5.mk 0 ⟨#[]⟩ (Sl.mk none 0 0) (Sl.mk none 0 0) (Sl.mk none 0 0) (Sl.mk none 0 0)).m7.n (g5.mk 0 ⟨#[]⟩ (Sl.mk none 0 0) (Sl.mk none 0 0) (Sl.mk none 0 0) (Sl.mk none 0 0)).m7.c), (Value.slice (g5.mk 0 ⟨#[]⟩ (Sl.mk none 0 0) (Sl.mk none 0 0) (Sl.mk none 0 0) (Sl.mk none 0 0)).A6.a (g5.mk 0 ⟨#[]⟩ (Sl.mk none 0 0) (Sl.mk none 0 0) (Sl.mk none 0 0) (Sl.mk none 0 0)).A6.n (g5.mk 0 ⟨#[]⟩ (Sl.mk none 0 0) (Sl.mk none 0 0) (Sl.mk none 0 0) (Sl.mk none 0 0)).A6.c), (Value.slice (g5.mk 0 ⟨#[]⟩ (Sl.mk none 0 0) (Sl.mk none 0 0) (Sl.mk none 0 0) (Sl.mk none 0 0)).L5.a (g5.mk 0 ⟨#[]⟩ (Sl.mk none 0 0) (Sl.mk none 0 0) (Sl.mk none 0 0) (Sl.mk none 0 0)).L5.n (g5.mk 0 ⟨#[]⟩ (Sl.mk none 0 0) (Sl.mk none 0 0) (Sl.mk none 0 0) (Sl.mk none 0 0)).L5.c), (Value.slice (g5.mk 0 ⟨#[]⟩ (Sl.mk none 0 0) (Sl.mk none 0 0) (Sl.mk none 0 0) (Sl.mk none 0 0)).I0.a (g5.mk 0 ⟨#[]⟩ (Sl.mk none 0 0) (Sl.mk none 0 0) (Sl.mk none 0 0) (Sl.mk none 0 0)).I0.n (g5.mk 0 ⟨#[]⟩ (Sl.mk none 0 0) (Sl.mk none 0 0) (Sl.mk none 0 0) (Sl.mk none 0 0)).I0.c)], av, ak] w) (_ : M9 x1 ab ac ad ai ae af a4j b (g5.mk 0 ⟨#[]⟩ (Sl.mk none 0 0) (Sl.mk none 0 0) (Sl.mk none 0 0) (Sl.mk none 0 0)) H K), b4A (Value.pointer (some ⟨g0, 0, none⟩)) (vi x1) (Value.pointer (some ⟨z, 0, none⟩)) (Value.pointer (some ⟨aa, 0, none⟩)) w j1 R E := by
   intro ab ac ad ai ae af a4j aj av ag ak H w cu cv I h
   unfold b4A
   intro _
   unfold M9 at h
   refine A0 hE Tryz.call103 (h g0) (I.bring 1) ?_
   rintro _ _ _ gg cw _ _ ⟨cx, rfl, rfl, h⟩
   refine W4 cw fun gh al => ?_
   refine r8 a0K ?_
   refine C4 (l1 Tryz.isAgg38 (al.bring 1) rfl) ?_
   refine A0 hE Tryz.call35 (h g0) al ?_
   rintro _ cy _ gi be _ cz ⟨bf, da, rfl, rfl, h⟩
   refine ⟨(cz _ (al.bring 1).lt1 (Inv.Z9 (Fi := [bx g0 101 (b7 cx)]) ((al.bring 1).bring 1))), ?_⟩
   refine W5 (e := 40) (c := d9) (xs := [bf]) be (a9V _ _ _ _ _ _) rfl rfl O6 O7 (nb rfl) fun gj gk gl db bg dc => ?_
   refine ⟨(dc _ (be.bring 1).lt1), ?_⟩
   obtain ⟨dd, h⟩ := h
   refine b8l (s := aj) (xs := ad) (bg.bring 5) cu (db.srcO ((bg.bring 5).bring 1)) dd fun aw de gm df dg gn => ?_
   refine r8 a0K ?_
   refine i6 ((dg.bring 1).drop.bring 2) Tryz.sizeOf38 (vs := [(vs aw)]) (cs' := [(vi ab), (Value.string ac), (vs aw), (vs ag), (vs ae), (vs af)]) rfl rfl (nb rfl) rfl rfl fun go dh gp => ?_
   exact hx1 _ _ (hj1 ab ac (ad ++ [bf]) ai ae af da aw de ag ak cy _ df cv ((((((dh.bring 5).bring 2).bring 5).bring 5).bring 5).bring 5) h)
  refine z8 fun j2 hx2 => ?_
  refine g9 Tryz.call105 (h g0) (ct.bring 2) ?_
  rintro _ di _ gq bh _ _ ⟨gr, bi, rfl, rfl, h⟩
  refine p7 h (fun _ h => ?_) (fun _ h => ?_)
  ·refine a7 X9 ?_
   refine i6 (bh.bring 1) Tryz.sizeOf3 (vs := [(vi 2)]) (cs' := [(vi 2), (Value.string b.B6), (nS), (nS), (nS), (nS)]) rfl rfl (nb rfl) rfl rfl fun gs dj gt => ?_
   refine W4 dj fun gu am => ?_
   refine r8 a0K ?_
   refine C4 (l1 Tryz.isAgg38 am rfl) ?_
   refine A0 hE Tryz.call106 (h g0) (am.bring 1) ?_
   rintro _ dk _ gv bj _ dl ⟨bk, dm, rfl, rfl, h⟩
   refine ⟨(dl _ am.lt1 (Inv.Z9 (Fi := [bx g0 101 (b7 bi)]) (am.bring 1))), ?_⟩
   refine W5 (e := 40) (c := d9) (xs := [bk]) bj (a9V _ _ _ _ _ _) rfl rfl O6 O7 (nb rfl) fun gw gx gy dn bl dp => ?_
   refine ⟨(dp _ (bj.bring 1).lt1), ?_⟩
   obtain ⟨dq, h⟩ := h
   refine b8l (s := ⟨none, 0, 0⟩) (xs := []) bl.nil (RowL.nil O6 O7) (dn.srcO (bl.nil.bring 1)) dq fun ax dr gz bm ds ha => ?_
   simp only [List.nil_append] at bm
   refine r8 a0K ?_
   refine i6 ((ds.bring 1).drop.bring 2) Tryz.sizeOf38 (vs := [(vs ax)]) (cs' := [(vi 2), (Value.string b.B6), (vs ax), (nS), (nS), (nS)]) rfl rfl (nb rfl) rfl rfl fun hb dt hc => ?_
   exact hx2 _ _ (hj2 2 b.B6 [bk] [] (Sl.mk none 0 0) (Sl.mk none 0 0) dm ax dr (Sl.mk none 0 0) [] dk _ bm (RowL.nil T3 T4) (((((dt.nil.bring 2).bring 5).bring 5).bring 5).bring 5) h)
  ·exact hx2 _ _ (hj2 1 b.B6 [] [] (Sl.mk none 0 0) (Sl.mk none 0 0) bi (Sl.mk none 0 0) [] (Sl.mk none 0 0) [] di _ (RowL.nil O6 O7) (RowL.nil T3 T4) (((((bh.nil.nil.bring 1).bring 5).bring 5).bring 4).bring 5) h)
 ·refine a7 S3 (g6 (l1 Tryz.isAgg9 d rfl) (a7 (R9 _ _ _ _ _) ?_))
  refine m6 h (fun _ h => ?_) (fun _ h => ?_)
  ·refine A0 hE Tryz.call41 (h g0) (d.bring 1) ?_
   rintro _ _ _ hd du _ _ ⟨bn, he, rfl, rfl, h⟩
   refine W5 (e := 49) (c := g8) (xs := [bn]) du (a8k _ _ _ _ _ _ _ _) rfl rfl T3 T4 (nb rfl) fun f dv hf dw dx hg => ?_
   refine a7 X9 ?_
   refine i6 (dx.bring 3) Tryz.sizeOf3 (vs := [(vi 3)]) (cs' := [(vi 3), (eS), (nS), (nS), (nS), (nS)]) rfl rfl (nb rfl) rfl rfl fun hh dy hi => ?_
   refine a7 a2N ?_
   refine i6 dy Tryz.sizeOf47 (vs := [(vs f)]) (cs' := [(vi 3), (eS), (nS), (vs f), (nS), (nS)]) rfl rfl (nb rfl) rfl rfl fun hj dz hk => ?_
   refine A0 hE Tryz.call107 (h g0) (dz.bring 2) ?_
   rintro _ _ _ hl ea _ _ ⟨ah, hm, rfl, rfl, h⟩
   refine a7 a4F ?_
   refine i6 (ea.bring 1) Tryz.sizeOf24 (vs := [(vs ah)]) (cs' := [(vi 3), (eS), (nS), (vs f), (vs ah), (nS)]) rfl rfl (nb rfl) rfl rfl fun hn eb ho => ?_
   have hj3 : ∀ (q : Int) (r : ByteArray) (t : Sl) (u : Sl) (v : Sl) (a5N : a8) H w (_ : Inv w0 ps0 H0 H [bx aa 56 [(vi q), (Value.string r), (vs t), (vs f), (vs u), (vs v)], bx g0 101 (b7 a5N), bx an 103 (f9 b), bx z 56 [(vi (g5.mk 0 ⟨#[]⟩ (Sl.mk none 0 0) (Sl.mk none 0 0) (Sl.mk none 0 0) (Sl.mk none 0 0)).c8), (Value.string (g5.mk 0 ⟨#[]⟩ (Sl.mk none 0 0) (Sl.mk none 0 0) (Sl.mk none 0 0) (Sl.mk none 0 0)).o9), (Value.slice (g5.mk 0 ⟨#[]⟩ (Sl.mk none 0 0) (Sl.mk none 0 0) (Sl.mk none 0 0) (Sl.mk none 0 0)).m7.a (g5.mk 0 ⟨#[]⟩ (Sl.mk none 0 0) (Sl.mk none 0 0) (Sl.mk none 0 0) (Sl.mk none 0 0)).m7.n (g5.mk 0 ⟨#[]⟩ (Sl.mk none 0 0) (Sl.mk none 0 0) (Sl.mk none 0 0) (Sl.mk none 0 0)).m7.c), (Value.slice (g5.mk 0 ⟨#[]⟩ (Sl.mk none 0 0) (Sl.mk none 0 0) (Sl.mk none 0 0) (Sl.mk none 0 0)).A6.a (g5.mk 0 ⟨#[]⟩ (Sl.mk none 0 0) (Sl.mk none 0 0) (Sl.mk none 0 0) (Sl.mk none 0 0)).A6.n (g5.mk 0 ⟨#[]⟩ (Sl.mk none 0 0) (Sl.mk none 0 0) (Sl.mk none 0 0) (Sl.mk none 0 0)).A6.c), (Value.slice (g5.mk 0 ⟨#[]⟩ (Sl.mk none 0 0) (Sl.mk none 0 0) (Sl.mk none 0 0) (Sl.mk none 0 0)).L5.a (g5.mk 0 ⟨#[]⟩ (Sl.mk none 0 0) (Sl.mk none 0 0) (Sl.mk none 0 0) (Sl.mk none 0 0)).L5.n (g5.mk 0 ⟨#[]⟩ (Sl.mk none 0 0) (Sl.mk none 0 0) (Sl.mk none 0 0) (Sl.mk none 0 0)).L5.c), (Value.slice (g5.mk 0 ⟨#[]⟩ (Sl.mk none 0 0) (Sl.mk none 0 0) (Sl.mk none 0 0) (Sl.mk none 0 0)).I0.a (g5.mk 0 ⟨#[]⟩ (Sl.mk none 0 0) (Sl.mk none 0 0) (Sl.mk none 0 0) (Sl.mk none 0 0)).I0.n (g5.mk 0 ⟨#[]⟩ (Sl.mk none 0 0) (Sl.mk none 0 0) (Sl.mk none 0 0) (Sl.mk none 0 0)).I0.c)], dv] w) (_ : M8 q r t ([bn]) u v a5N b (g5.mk 0 ⟨#[]⟩ (Sl.mk none 0 0) (Sl.mk none 0 0) (Sl.mk none 0 0) (Sl.mk none 0 0)) H K), b4B (Value.pointer (some ⟨z, 0, none⟩)) (Value.pointer (some ⟨aa, 0, none⟩)) w R E := by
    intro q r t u v a5N H w I h
    unfold b4B
    intro _
    unfold M8 at h
    refine g6 (ldA Tryz.isAgg56 Tryz.sizeOf56 rfl (I.at1 (o := 0) (vs := [(vi q), (Value.string r), (vs t), (vs f), (vs u), (vs v)]) (nb rfl) rfl)) ?_
    refine i6 (I.bring 3) Tryz.sizeOf56 (vs := [(vi q), (Value.string r), (vs t), (vs f), (vs u), (vs v)]) (cs' := [(vi q), (Value.string r), (vs t), (vs f), (vs u), (vs v)]) rfl rfl (nb rfl) rfl rfl fun hp bo hq => ?_
    refine A5 Tryz.isAgg56 Tryz.sizeOf56 rfl (bo.at1 (o := 0) (vs := [(vi q), (Value.string r), (vs t), (vs f), (vs u), (vs v)]) (nb rfl) rfl) ?_
    obtain ⟨bp, ec, ed, ee, ef⟩ := Inv.freezeC (bo.bring 4) dw (by decide)
    replace h := h f bp ed ee ef
    exact hR _ bp _ _ (ec.drop.drop.bring 1).drop ⟨(g5.mk q r t f u v), a5N, rfl, rfl, h⟩
   refine z8 fun j3 hx3 => ?_
   refine g9 Tryz.call105 (h g0) (eb.bring 1) ?_
   rintro _ eg _ hr bq _ _ ⟨hs, eh, rfl, rfl, h⟩
   refine p7 h (fun _ h => ?_) (fun _ h => ?_)
   ·refine A0 hE Tryz.call107 (h g0) bq ?_
    rintro _ ei _ ht ej _ _ ⟨ay, ek, rfl, rfl, h⟩
    refine a7 a4G ?_
    refine i6 (ej.bring 1) Tryz.sizeOf24 (vs := [(vs ay)]) (cs' := [(vi 3), (eS), (nS), (vs f), (vs ah), (vs ay)]) rfl rfl (nb rfl) rfl rfl fun hu el hv => ?_
    exact hx3 _ _ (hj3 3 ⟨#[]⟩ (Sl.mk none 0 0) ah ay ek ei _ (((((el.bring 2).bring 4).bring 4).bring 4).bring 4) h)
   ·exact hx3 _ _ (hj3 3 ⟨#[]⟩ (Sl.mk none 0 0) ah (Sl.mk none 0 0) eh eg _ (((((bq.bring 2).bring 4).bring 4).bring 3).bring 4) h)
  ·refine a7 S3 (g6 (l1 Tryz.isAgg9 d rfl) (a7 (R9 _ _ _ _ _) ?_))
   refine m6 h (fun _ h => ?_) (fun _ h => ?_)
   ·refine A0 hE Tryz.call41 (h g0) (d.bring 1) ?_
    rintro _ _ _ hw em _ _ ⟨en, hx, rfl, rfl, h⟩
    refine W5 (e := 49) (c := g8) (xs := [en]) em (a8k _ _ _ _ _ _ _ _) rfl rfl T3 T4 (nb rfl) fun j hy hz eo ep ia => ?_
    refine a7 X9 ?_
    refine i6 (ep.bring 3) Tryz.sizeOf3 (vs := [(vi 4)]) (cs' := [(vi 4), (eS), (nS), (nS), (nS), (nS)]) rfl rfl (nb rfl) rfl rfl fun ib eq ic => ?_
    refine a7 a2N ?_
    refine i6 eq Tryz.sizeOf47 (vs := [(vs j)]) (cs' := [(vi 4), (eS), (nS), (vs j), (nS), (nS)]) rfl rfl (nb rfl) rfl rfl fun id er ie => ?_
    refine A0 hE Tryz.call107 (h g0) (er.bring 2) ?_
    rintro _ _ _ ig es _ _ ⟨y, et, rfl, rfl, h⟩
    refine a7 a4F ?_
    refine i6 (es.bring 1) Tryz.sizeOf24 (vs := [(vs y)]) (cs' := [(vi 4), (eS), (nS), (vs j), (vs y), (nS)]) rfl rfl (nb rfl) rfl rfl fun ih br ii => ?_
    refine g6 (ldA Tryz.isAgg56 Tryz.sizeOf56 rfl (br.at1 (o := 0) (vs := [(vi 4), (eS), (nS), (vs j), (vs y), (nS)]) (nb rfl) rfl)) ?_
    refine i6 (br.bring 4) Tryz.sizeOf56 (vs := [(vi 4), (eS), (nS), (vs j), (vs y), (nS)]) (cs' := [(vi 4), (eS), (nS), (vs j), (vs y), (nS)]) rfl rfl (nb rfl) rfl rfl fun ij bs ik => ?_
    refine A5 Tryz.isAgg56 Tryz.sizeOf56 rfl (bs.at1 (o := 0) (vs := [(vi 4), (eS), (nS), (vs j), (vs y), (nS)]) (nb rfl) rfl) ?_
    obtain ⟨bt, eu, ev, ew, ex⟩ := Inv.freezeC (bs.bring 3) eo (by decide)
    replace h := h j bt ev ew ex
    exact hR _ bt _ _ (eu.drop.drop.bring 1).drop ⟨(g5.mk 4 ⟨#[]⟩ (Sl.mk none 0 0) j y (Sl.mk none 0 0)), et, rfl, rfl, h⟩
   ·refine a7 S3 (g6 (l1 Tryz.isAgg9 d rfl) (a7 (R9 _ _ _ _ _) ?_))
    refine m6 h (fun _ h => ?_) (fun _ h => ?_)
    ·refine A0 hE Tryz.call41 (h g0) (d.bring 1) ?_
     rintro _ ey _ il ez _ _ ⟨bu, fa, rfl, rfl, h⟩
     refine W5 (e := 49) (c := g8) (xs := [bu]) ez (a8k _ _ _ _ _ _ _ _) rfl rfl T3 T4 (nb rfl) fun az fb im fc fd io => ?_
     refine a7 X9 ?_
     refine i6 (fd.bring 3) Tryz.sizeOf3 (vs := [(vi 5)]) (cs' := [(vi 5), (eS), (nS), (nS), (nS), (nS)]) rfl rfl (nb rfl) rfl rfl fun ip fe iq => ?_
     refine a7 a2N ?_
     refine i6 fe Tryz.sizeOf47 (vs := [(vs az)]) (cs' := [(vi 5), (eS), (nS), (vs az), (nS), (nS)]) rfl rfl (nb rfl) rfl rfl fun ir ff it => ?_
     exact hx1 _ _ (hj1 5 ⟨#[]⟩ [] [bu] (Sl.mk none 0 0) (Sl.mk none 0 0) fa (Sl.mk none 0 0) [] az fb ey _ (RowL.nil O6 O7) fc ((((((ff.nil.bring 2).bring 1).bring 5).bring 5).bring 5).bring 5) h)
    ·refine a7 S3 (g6 (l1 Tryz.isAgg9 d rfl) (a7 (R9 _ _ _ _ _) ?_))
     refine m6 h (fun _ h => ?_) (fun _ h => ?_)
     ·refine A0 hE Tryz.call41 (h g0) (d.bring 1) ?_
      rintro _ fg _ iu fh _ _ ⟨bv, fi, rfl, rfl, h⟩
      refine W5 (e := 49) (c := g8) (xs := [bv]) fh (a8k _ _ _ _ _ _ _ _) rfl rfl T3 T4 (nb rfl) fun ba fj iv fk fl iw => ?_
      refine a7 X9 ?_
      refine i6 (fl.bring 3) Tryz.sizeOf3 (vs := [(vi 6)]) (cs' := [(vi 6), (eS), (nS), (nS), (nS), (nS)]) rfl rfl (nb rfl) rfl rfl fun ix fm iy => ?_
      refine a7 a2N ?_
      refine i6 fm Tryz.sizeOf47 (vs := [(vs ba)]) (cs' := [(vi 6), (eS), (nS), (vs ba), (nS), (nS)]) rfl rfl (nb rfl) rfl rfl fun iz fn ja => ?_
      exact hx1 _ _ (hj1 6 ⟨#[]⟩ [] [bv] (Sl.mk none 0 0) (Sl.mk none 0 0) fi (Sl.mk none 0 0) [] ba fj fg _ (RowL.nil O6 O7) fk ((((((fn.nil.bring 2).bring 1).bring 5).bring 5).bring 5).bring 5) h)
     ·refine a7 X9 ?_
      refine i6 (d.bring 2) Tryz.sizeOf3 (vs := [(vi 7)]) (cs' := [(vi 7), (eS), (nS), (nS), (nS), (nS)]) rfl rfl (nb rfl) rfl rfl fun jb fo jc => ?_
      exact hx1 _ _ (hj1 7 ⟨#[]⟩ [] [] (Sl.mk none 0 0) (Sl.mk none 0 0) cc (Sl.mk none 0 0) [] (Sl.mk none 0 0) [] ca _ (RowL.nil O6 O7) (RowL.nil T3 T4) (((((fo.nil.nil.bring 1).bring 5).bring 4).bring 5).bring 5) h)
def X8 [PanQ] (b : M1) (u5 : a8) (H : Hp) (K : Int → a8 → Hp → Prop) : Prop :=
 D8 u5 H (fun a =>
 K 0 u5 a)
def S4 [PanQ] (A4 : M1) (c : M1) (B9 : Int) (p5 : a8) (H : Hp) (n2 : (Int × a8) → Hp → Prop) (K : Int → a8 → Hp → Prop) : Prop :=
 (B9 < 7 →
 (0 : Int) ≤ B9 ∧ (B9 : Int) < 7 ∧
 TG ((decide (0 < B9)) = true) (fun k_ => u0 p5 (([A4.f0, A4.f1, A4.f2, A4.f3, A4.f4, A4.f5, A4.f6] : List ByteArray).getD (B9 : Int).toNat ⟨#[]⟩) H fun d e H_ => k_ (d, e) H_) (false, p5) H (fun (a : Bool × a8) (b : Hp) =>
 (((decide (0 < B9)) && a.1) = true →
 K B9 a.2 b) ∧
 (((decide (0 < B9)) && a.1) = false →
 n2 ((IntKind.wrap .i64 (B9 + 1)), a.2) b))) ∧
 (¬ (B9 < 7) →
 X8 c p5 H K)
def a0i [PanQ] (x0 : a8) (H : Hp) (K : Int → a8 → Hp → Prop) : Prop :=
 TL ((0, x0) : Int × a8) H fun (s : Int × a8) H n2 => S4 (M1.mk ⟨#[]⟩ ⟨#[60]⟩ ⟨#[60, 61]⟩ ⟨#[61, 61]⟩ ⟨#[33, 61]⟩ ⟨#[62]⟩ ⟨#[62, 61]⟩) (M1.mk ⟨#[]⟩ ⟨#[60]⟩ ⟨#[60, 61]⟩ ⟨#[61, 61]⟩ ⟨#[33, 61]⟩ ⟨#[62]⟩ ⟨#[62, 61]⟩) s.1 s.2 H n2 K
theorem a5O [PanQ] (x0 : a8) {H : Hp} {K : Int → a8 → Hp → Prop} (h : a0i x0 H K) : a0f x0 H K := by
 intro g0
 refine Ct.ofE fun w0 w ps0 H0 R E I hR hE => c1S ?_
 unfold a0i at h
 unfold c4O
 refine a7 (a7s _ _ _ _ _ _ _) ?_
 refine p6 I Tryz.zeroValue195 (cs := [(eS), (eS), (eS), (eS), (eS), (eS), (eS)]) rfl fun m ah z ai => ?_
 refine i6 z Tryz.sizeOf195 (vs := [(eS), (Value.string ⟨#[60]⟩), (Value.string ⟨#[60, 61]⟩), (Value.string ⟨#[61, 61]⟩), (Value.string ⟨#[33, 61]⟩), (Value.string ⟨#[62]⟩), (Value.string ⟨#[62, 61]⟩)]) (cs' := [(eS), (Value.string ⟨#[60]⟩), (Value.string ⟨#[60, 61]⟩), (Value.string ⟨#[61, 61]⟩), (Value.string ⟨#[33, 61]⟩), (Value.string ⟨#[62]⟩), (Value.string ⟨#[62, 61]⟩)]) rfl rfl (nb rfl) rfl rfl fun aj r ak => ?_
 have hj1 : ∀ (u5 : a8) H w (_ : Inv w0 ps0 H0 H [bx m 195 [(Value.string (M1.mk ⟨#[]⟩ ⟨#[60]⟩ ⟨#[60, 61]⟩ ⟨#[61, 61]⟩ ⟨#[33, 61]⟩ ⟨#[62]⟩ ⟨#[62, 61]⟩).f0), (Value.string (M1.mk ⟨#[]⟩ ⟨#[60]⟩ ⟨#[60, 61]⟩ ⟨#[61, 61]⟩ ⟨#[33, 61]⟩ ⟨#[62]⟩ ⟨#[62, 61]⟩).f1), (Value.string (M1.mk ⟨#[]⟩ ⟨#[60]⟩ ⟨#[60, 61]⟩ ⟨#[61, 61]⟩ ⟨#[33, 61]⟩ ⟨#[62]⟩ ⟨#[62, 61]⟩).f2), (Value.string (M1.mk ⟨#[]⟩ ⟨#[60]⟩ ⟨#[60, 61]⟩ ⟨#[61, 61]⟩ ⟨#[33, 61]⟩ ⟨#[62]⟩ ⟨#[62, 61]⟩).f3), (Value.string (M1.mk ⟨#[]⟩ ⟨#[60]⟩ ⟨#[60, 61]⟩ ⟨#[61, 61]⟩ ⟨#[33, 61]⟩ ⟨#[62]⟩ ⟨#[62, 61]⟩).f4), (Value.string (M1.mk ⟨#[]⟩ ⟨#[60]⟩ ⟨#[60, 61]⟩ ⟨#[61, 61]⟩ ⟨#[33, 61]⟩ ⟨#[62]⟩ ⟨#[62, 61]⟩).f5), (Value.string (M1.mk ⟨#[]⟩ ⟨#[60]⟩ ⟨#[60, 61]⟩ ⟨#[61, 61]⟩ ⟨#[33, 61]⟩ ⟨#[62]⟩ ⟨#[62, 61]⟩).f6)], bx g0 101 (b7 u5)] w) (_ : X8 (M1.mk ⟨#[]⟩ ⟨#[60]⟩ ⟨#[60, 61]⟩ ⟨#[61, 61]⟩ ⟨#[33, 61]⟩ ⟨#[62]⟩ ⟨#[62, 61]⟩) u5 H K), b2o (Value.pointer (some ⟨g0, 0, none⟩)) w R E := by
  intro u5 H w I h
  unfold b2o
  intro _
  unfold X8 at h
  refine A0 hE Tryz.call52 (h g0) (I.bring 1) ?_
  rintro _ aa _ al ab _ _ ⟨rfl, rfl, h⟩
  exact hR _ aa _ _ (ab.bring 1).drop ⟨0, u5, rfl, rfl, h⟩
 refine z8 fun j1 hx1 => ?_
 refine g6 (ldA Tryz.isAgg195 Tryz.sizeOf195 rfl (r.at1 (o := 0) (vs := [(eS), (Value.string ⟨#[60]⟩), (Value.string ⟨#[60, 61]⟩), (Value.string ⟨#[61, 61]⟩), (Value.string ⟨#[33, 61]⟩), (Value.string ⟨#[62]⟩), (Value.string ⟨#[62, 61]⟩)]) (nb rfl) rfl)) ?_
 obtain ⟨p, g, ac, ad⟩ := h
 refine G7 (J := fun n l w => ∃ (s : Int × a8) (H : Hp) , n = g s ∧ l = (match s with | (B9, p5) => [(vi B9)]) ∧ (match s with | (B9, p5) => Inv w0 ps0 H0 H [bx m 195 [(Value.string (M1.mk ⟨#[]⟩ ⟨#[60]⟩ ⟨#[60, 61]⟩ ⟨#[61, 61]⟩ ⟨#[33, 61]⟩ ⟨#[62]⟩ ⟨#[62, 61]⟩).f0), (Value.string (M1.mk ⟨#[]⟩ ⟨#[60]⟩ ⟨#[60, 61]⟩ ⟨#[61, 61]⟩ ⟨#[33, 61]⟩ ⟨#[62]⟩ ⟨#[62, 61]⟩).f1), (Value.string (M1.mk ⟨#[]⟩ ⟨#[60]⟩ ⟨#[60, 61]⟩ ⟨#[61, 61]⟩ ⟨#[33, 61]⟩ ⟨#[62]⟩ ⟨#[62, 61]⟩).f2), (Value.string (M1.mk ⟨#[]⟩ ⟨#[60]⟩ ⟨#[60, 61]⟩ ⟨#[61, 61]⟩ ⟨#[33, 61]⟩ ⟨#[62]⟩ ⟨#[62, 61]⟩).f3), (Value.string (M1.mk ⟨#[]⟩ ⟨#[60]⟩ ⟨#[60, 61]⟩ ⟨#[61, 61]⟩ ⟨#[33, 61]⟩ ⟨#[62]⟩ ⟨#[62, 61]⟩).f4), (Value.string (M1.mk ⟨#[]⟩ ⟨#[60]⟩ ⟨#[60, 61]⟩ ⟨#[61, 61]⟩ ⟨#[33, 61]⟩ ⟨#[62]⟩ ⟨#[62, 61]⟩).f5), (Value.string (M1.mk ⟨#[]⟩ ⟨#[60]⟩ ⟨#[60, 61]⟩ ⟨#[61, 61]⟩ ⟨#[33, 61]⟩ ⟨#[62]⟩ ⟨#[62, 61]⟩).f6)], bx g0 101 (b7 p5)] w) ∧ p s H) ⟨_, (0, x0), H, rfl, rfl, ((r.bring 1).bring 1), ac⟩ ?_
 rintro am an w next2 ⟨⟨B9, p5⟩, H, rfl, q, I, ae⟩ hn2
 dsimp only at q I
 simp only [List.map_cons, List.map_nil, List.cons.injEq, and_true] at q
 have e8 := q
 simp only [e8]
 obtain ⟨n2, hm2, h⟩ : ∃ n2 : (Int × a8) → Hp → Prop, (∀ s' H', n2 s' H' → p s' H' ∧ g s' < g (B9, p5)) ∧ S4 (M1.mk ⟨#[]⟩ ⟨#[60]⟩ ⟨#[60, 61]⟩ ⟨#[61, 61]⟩ ⟨#[33, 61]⟩ ⟨#[62]⟩ ⟨#[62, 61]⟩) (M1.mk ⟨#[]⟩ ⟨#[60]⟩ ⟨#[60, 61]⟩ ⟨#[61, 61]⟩ ⟨#[33, 61]⟩ ⟨#[62]⟩ ⟨#[62, 61]⟩) B9 p5 H n2 K := ⟨_, fun _ _ h => h, ad (B9, p5) H (fun s' H' => p s' H' ∧ g s' < g (B9, p5)) ae (fun _ _ a b => ⟨a, b⟩)⟩
 unfold b6q
 unfold S4 at h
 refine a7 pLs ?_
 refine m6 h (fun _ h => ?_) (fun _ h => ?_)
 ·obtain ⟨af, ag, h⟩ := h
  refine a7 (b7t _ _ _ _ _ _ _ _ _ af ag) (a7 pGt ?_)
  simp only [E5]
  refine G6 (D := fun t j => ∃ (f : Bool) (d : a8) (c : Hp) , t = (gv (decide (0 < B9)) true (vB f)) ∧ (Inv w0 ps0 H0 c [bx g0 101 (b7 d), bx m 195 [(Value.string (M1.mk ⟨#[]⟩ ⟨#[60]⟩ ⟨#[60, 61]⟩ ⟨#[61, 61]⟩ ⟨#[33, 61]⟩ ⟨#[62]⟩ ⟨#[62, 61]⟩).f0), (Value.string (M1.mk ⟨#[]⟩ ⟨#[60]⟩ ⟨#[60, 61]⟩ ⟨#[61, 61]⟩ ⟨#[33, 61]⟩ ⟨#[62]⟩ ⟨#[62, 61]⟩).f1), (Value.string (M1.mk ⟨#[]⟩ ⟨#[60]⟩ ⟨#[60, 61]⟩ ⟨#[61, 61]⟩ ⟨#[33, 61]⟩ ⟨#[62]⟩ ⟨#[62, 61]⟩).f2), (Value.string (M1.mk ⟨#[]⟩ ⟨#[60]⟩ ⟨#[60, 61]⟩ ⟨#[61, 61]⟩ ⟨#[33, 61]⟩ ⟨#[62]⟩ ⟨#[62, 61]⟩).f3), (Value.string (M1.mk ⟨#[]⟩ ⟨#[60]⟩ ⟨#[60, 61]⟩ ⟨#[61, 61]⟩ ⟨#[33, 61]⟩ ⟨#[62]⟩ ⟨#[62, 61]⟩).f4), (Value.string (M1.mk ⟨#[]⟩ ⟨#[60]⟩ ⟨#[60, 61]⟩ ⟨#[61, 61]⟩ ⟨#[33, 61]⟩ ⟨#[62]⟩ ⟨#[62, 61]⟩).f5), (Value.string (M1.mk ⟨#[]⟩ ⟨#[60]⟩ ⟨#[60, 61]⟩ ⟨#[61, 61]⟩ ⟨#[33, 61]⟩ ⟨#[62]⟩ ⟨#[62, 61]⟩).f6)]] j) ∧ (∀ i, i < w.heap.size → ¬ inF [bx g0 101 (b7 p5)] i → j.heap[i]? = w.heap[i]?) ∧ Hle H c ∧ ((((decide (0 < B9)) && f) = true →
 K B9 d c) ∧
 (((decide (0 < B9)) && f) = false →
 n2 ((IntKind.wrap .i64 (B9 + 1)), d) c))) (fun e => ?_) (fun e => ?_) ?_
  ·replace h := h.1 e
   have u := e
   simp only [m1 u]
   refine g9 Tryz.call105 (h g0) (I.bring 1) ?_
   rintro _ c _ j k v y ⟨f, d, rfl, rfl, h⟩
   exact ⟨f, d, c, by rfl, k, y, v, h⟩
  ·exact ⟨false, p5, H, by rw [R8 e], (I.bring 1), fun _ _ _ => rfl, Hle.refl _, h.2 e⟩
  ·clear h
   rintro t j ⟨f, d, c, rfl, k, y, v, h⟩
   refine a7 (C1 _ _) ?_
   refine p7 h (fun _ h => ?_) (fun _ h => ?_)
   ·exact hR _ c _ _ (k.bring 1).drop ⟨B9, d, rfl, rfl, h⟩
   ·refine a7 pAd ?_
    exact hn2 _ _ _ (hm2 _ _ h).2 ⟨((IntKind.wrap .i64 (B9 + 1)), d), c, rfl, rfl, (k.bring 1), (hm2 _ _ h).1⟩
 ·exact hx1 _ _ (hj1 p5 H _ ((I.bring 1).bring 1) h)
def R0 [PanQ] (b0U : Int) (u5 : a8) (o : b9) (H : Hp) (K : b9 → a8 → Hp → Prop) : Prop :=
 O9 u5 H (fun a e f =>
 (a.c8 = 2 →
 K (b9.mk 1 a.J5 ⟨#[]⟩ (Sl.mk none 0 0)) e f) ∧
 (¬ (a.c8 = 2) →
 u0 e ⟨#[91]⟩ f (fun g i j =>
 ((!g) = true →
 K (b9.mk 2 0 a.B6 (Sl.mk none 0 0)) i j) ∧
 ((!g) = false →
 S7 i b0U ⟨#[93]⟩ j (fun k l m =>
 ∀ (b : Sl) (d : Hp), Hle m d → SlH d 4 d9 b [k] → b.n ≤ b.c →
 K (b9.mk 4 0 a.B6 b) l d)))))
def a1E [PanQ] (x0 : a8) (x1 : Int) (H : Hp) (K : b9 → a8 → Hp → Prop) : Prop :=
 G3 x0 H (fun e f =>
 ((!e) = true →
 D8 x0 f (fun q =>
 R0 x1 x0 (b9.mk 0 0 ⟨#[]⟩ (Sl.mk none 0 0)) q K)) ∧
 ((!e) = false →
 u0 x0 ⟨#[45]⟩ f (fun g a i =>
 (g = true →
 G3 a i (fun r s =>
 C2 a (IntKind.wrap .i64 (x1 + 1)) r s (fun t =>
 P0 a (IntKind.wrap .i64 (x1 + 1)) t (fun u v y =>
 ∀ (b : Sl) (d : Hp), Hle y d → SlH d 4 d9 b [u] → b.n ≤ b.c →
 K (b9.mk 5 0 ⟨#[]⟩ b) v d)))) ∧
 (g = false →
 u0 a ⟨#[40]⟩ i (fun j k l =>
 (j = true →
 S7 k x1 ⟨#[41]⟩ l (fun z aa ab =>
 K z aa ab)) ∧
 (j = false →
 u0 k ⟨#[105, 110, 112, 117, 116]⟩ l (fun m o p =>
 (m = true →
 K (b9.mk 3 0 ⟨#[]⟩ (Sl.mk none 0 0)) o p) ∧
 (m = false →
 R0 x1 o (b9.mk 0 0 ⟨#[]⟩ (Sl.mk none 0 0)) p K))))))))
theorem a6U [PanQ] (x0 : a8) (x1 : Int) {H : Hp} {K : b9 → a8 → Hp → Prop} (h : a1E x0 x1 H K) : P0 x0 x1 H K := by
 intro g0
 refine Ct.ofE fun w0 w ps0 H0 R E I hR hE => c1P ?_
 unfold a1E at h
 unfold c4L
 refine p6 I Tryz.zeroValue40 (cs := [(vi 0), (vi 0), (eS), (nS)]) rfl fun l bo ag bp => ?_
 have hj1 : ∀ (u5 : a8) H w (_ : Inv w0 ps0 H0 H [bx g0 101 (b7 u5), bx l 40 [(vi (b9.mk 0 0 ⟨#[]⟩ (Sl.mk none 0 0)).c8), (vi (b9.mk 0 0 ⟨#[]⟩ (Sl.mk none 0 0)).J5), (Value.string (b9.mk 0 0 ⟨#[]⟩ (Sl.mk none 0 0)).o9), (Value.slice (b9.mk 0 0 ⟨#[]⟩ (Sl.mk none 0 0)).P7.a (b9.mk 0 0 ⟨#[]⟩ (Sl.mk none 0 0)).P7.n (b9.mk 0 0 ⟨#[]⟩ (Sl.mk none 0 0)).P7.c)]] w) (_ : R0 x1 u5 (b9.mk 0 0 ⟨#[]⟩ (Sl.mk none 0 0)) H K), b2n (Value.pointer (some ⟨g0, 0, none⟩)) (vi x1) (Value.pointer (some ⟨l, 0, none⟩)) w R E := by
  intro u5 H w I h
  unfold b2n
  intro _
  unfold R0 at h
  refine A0 hE Tryz.call104 (h g0) I ?_
  rintro _ ah _ bq ai _ _ ⟨b, aj, rfl, rfl, h⟩
  refine p6 ai Tryz.zeroValue103 (cs := [(vi 0), (eS), (vi 0), (vi 0), (vi 0)]) rfl fun br bs ak bt => ?_
  refine i6 ak Tryz.sizeOf103 (vs := (f9 b)) (cs' := (f9 b)) rfl rfl (nb rfl) rfl rfl fun bu g bv => ?_
  refine a7 a0L (g6 (l1 Tryz.isAgg3 g rfl) (a7 pEq ?_))
  refine m6 h (fun _ h => ?_) (fun _ h => ?_)
  ·refine a7 a6q (g6 (l1 Tryz.isAgg2 g rfl) (a7 (b3F _ _) ?_))
   refine i6 (g.bring 2) Tryz.sizeOf40 (vs := [(vi 1), (vi b.J5), (eS), (nS)]) (cs' := [(vi 1), (vi b.J5), (eS), (nS)]) rfl rfl (nb rfl) rfl rfl fun bw m bz => ?_
   refine A5 Tryz.isAgg40 Tryz.sizeOf40 rfl (m.at1 (o := 0) (vs := [(vi 1), (vi b.J5), (eS), (nS)]) (nb rfl) rfl) ?_
   exact hR _ ah _ _ m.drop.drop ⟨(b9.mk 1 b.J5 ⟨#[]⟩ (Sl.mk none 0 0)), aj, rfl, rfl, h⟩
  ·refine g9 Tryz.call105 (h g0) (g.bring 1) ?_
   rintro _ al _ ca k _ _ ⟨cb, p, rfl, rfl, h⟩
   refine a7 (T2 _) ?_
   refine p7 h (fun _ h => ?_) (fun _ h => ?_)
   ·refine a7 S3 (g6 (l1 Tryz.isAgg9 (k.bring 1) rfl) (a7 (b3G _ _) ?_))
    refine i6 (k.bring 2) Tryz.sizeOf40 (vs := [(vi 2), (vi 0), (Value.string b.B6), (nS)]) (cs' := [(vi 2), (vi 0), (Value.string b.B6), (nS)]) rfl rfl (nb rfl) rfl rfl fun cc q cd => ?_
    refine A5 Tryz.isAgg40 Tryz.sizeOf40 rfl (q.at1 (o := 0) (vs := [(vi 2), (vi 0), (Value.string b.B6), (nS)]) (nb rfl) rfl) ?_
    exact hR _ al _ _ (q.drop.bring 1).drop ⟨(b9.mk 2 0 b.B6 (Sl.mk none 0 0)), p, rfl, rfl, h⟩
   ·refine W4 k fun ce i => ?_
    refine r8 S3 ?_
    refine C4 (l1 Tryz.isAgg9 (i.bring 1) rfl) ?_
    refine A0 hE Tryz.call106 (h g0) i ?_
    rintro _ _ _ cf r _ am ⟨an, ao, rfl, rfl, h⟩
    refine ⟨(am _ (i.bring 1).lt1 (Inv.Z9 (Fi := [bx g0 101 (b7 p)]) ((i.bring 1).bring 1))), ?_⟩
    refine W5 (e := 40) (c := d9) (xs := [an]) r (a9V _ _ _ _ _ _) rfl rfl O6 O7 (nb rfl) fun d cg ch ap aq ar => ?_
    refine ⟨(ar _ (r.bring 1).lt1), ?_⟩
    refine r8 (b1q _ _ _ _ _) ?_
    refine i6 (aq.bring 3) Tryz.sizeOf40 (vs := [(vi 4), (vi 0), (Value.string b.B6), (vs d)]) (cs' := [(vi 4), (vi 0), (Value.string b.B6), (vs d)]) rfl rfl (nb rfl) rfl rfl fun ci s cj => ?_
    refine A5 Tryz.isAgg40 Tryz.sizeOf40 rfl (s.at1 (o := 0) (vs := [(vi 4), (vi 0), (Value.string b.B6), (vs d)]) (nb rfl) rfl) ?_
    obtain ⟨t, au, av, aw, ax⟩ := Inv.freezeC (s.bring 1) ap (by decide)
    replace h := h d t av aw ax
    exact hR _ t _ _ (au.drop.bring 1).drop ⟨(b9.mk 4 0 b.B6 d), ao, rfl, rfl, h⟩
 refine z8 fun j1 hx1 => ?_
 refine g9 Tryz.call141 (h g0) (ag.bring 1) ?_
 rintro _ _ _ ck u _ _ ⟨cl, rfl, rfl, h⟩
 refine a7 (T2 _) ?_
 refine p7 h (fun _ h => ?_) (fun _ h => ?_)
 ·refine A0 hE Tryz.call52 (h g0) u ?_
  rintro _ ay _ cm az _ _ ⟨rfl, rfl, h⟩
  exact hx1 _ _ (hj1 x0 ay _ ((az.bring 1).bring 1) h)
 ·refine g9 Tryz.call105 (h g0) u ?_
  rintro _ _ _ cn v _ _ ⟨co, cp, rfl, rfl, h⟩
  refine p7 h (fun _ h => ?_) (fun _ h => ?_)
  ·refine a7 pAd ?_
   refine g9 Tryz.call141 (h g0) v ?_
   rintro _ _ _ cq ba _ _ ⟨cr, rfl, rfl, h⟩
   refine A0 hE Tryz.call55 (h g0) ba ?_
   rintro _ _ _ ct bb _ _ ⟨rfl, rfl, h⟩
   refine a7 pAd ?_
   refine A0 hE Tryz.call122 (h g0) bb ?_
   rintro _ _ _ cu bc _ _ ⟨bd, be, rfl, rfl, h⟩
   refine W5 (e := 40) (c := d9) (xs := [bd]) bc (a9V _ _ _ _ _ _) rfl rfl O6 O7 (nb rfl) fun f cv cw bf bg cx => ?_
   refine a7 (a5e _ _ _ _) ?_
   refine i6 (bg.bring 2) Tryz.sizeOf40 (vs := [(vi 5), (vi 0), (eS), (vs f)]) (cs' := [(vi 5), (vi 0), (eS), (vs f)]) rfl rfl (nb rfl) rfl rfl fun cy y cz => ?_
   refine A5 Tryz.isAgg40 Tryz.sizeOf40 rfl (y.at1 (o := 0) (vs := [(vi 5), (vi 0), (eS), (vs f)]) (nb rfl) rfl) ?_
   obtain ⟨z, bh, bi, bj, bk⟩ := Inv.freezeC (y.bring 1) bf (by decide)
   replace h := h f z bi bj bk
   exact hR _ z _ _ bh.drop ⟨(b9.mk 5 0 ⟨#[]⟩ f), be, rfl, rfl, h⟩
  ·refine g9 Tryz.call105 (h g0) v ?_
   rintro _ _ _ da aa _ _ ⟨db, dc, rfl, rfl, h⟩
   refine p7 h (fun _ h => ?_) (fun _ h => ?_)
   ·refine A0 hE Tryz.call106 (h g0) aa ?_
    rintro _ bl _ dd bm _ _ ⟨j, bn, rfl, rfl, h⟩
    refine i6 (bm.bring 1) Tryz.sizeOf40 (vs := (d9 j)) (cs' := (d9 j)) rfl rfl (nb rfl) rfl rfl fun de ab df => ?_
    refine A5 Tryz.isAgg40 Tryz.sizeOf40 rfl (ab.at1 (o := 0) (vs := (d9 j)) (nb rfl) rfl) ?_
    exact hR _ bl _ _ ab.drop ⟨j, bn, rfl, rfl, h⟩
   ·refine g9 Tryz.call105 (h g0) aa ?_
    rintro _ ac _ dg ad _ _ ⟨dh, ae, rfl, rfl, h⟩
    refine p7 h (fun _ h => ?_) (fun _ h => ?_)
    ·refine a7 (b5K _) ?_
     refine i6 (ad.bring 1) Tryz.sizeOf40 (vs := [(vi 3), (vi 0), (eS), (nS)]) (cs' := [(vi 3), (vi 0), (eS), (nS)]) rfl rfl (nb rfl) rfl rfl fun di af dj => ?_
     refine A5 Tryz.isAgg40 Tryz.sizeOf40 rfl (af.at1 (o := 0) (vs := [(vi 3), (vi 0), (eS), (nS)]) (nb rfl) rfl) ?_
     exact hR _ ac _ _ af.drop ⟨(b9.mk 3 0 ⟨#[]⟩ (Sl.mk none 0 0)), ae, rfl, rfl, h⟩
    ·exact hx1 _ _ (hj1 ae ac _ ((ad.bring 1).bring 1) h)
def y7 (a1x : Int) (t7 : ByteArray) (t8 : Int) (y9 : b8) (C3 : (List b5)) (H : Hp) (K : ByteArray → d7 → (List b5) → Hp → Prop) : Prop :=
 (0 : Int) ≤ a1x ∧ (a1x : Int) ≤ t8 ∧ (t8 : Int) ≤ t7.size ∧
 K (t7.extract (a1x : Int).toNat (t8 : Int).toNat) (d7.mk t7 t8 y9 (Sl.mk none 0 0)) C3 H
def A9 (b0V : Int) (H9 : Int) (A4 : Bool) (p8 : ByteArray) (p9 : Int) (o6 : b8) (o7 : (List b5)) (H : Hp) (n2 : (Int × Bool × ByteArray × Int × b8 × (List b5)) → Hp → Prop) (K : ByteArray → d7 → (List b5) → Hp → Prop) : Prop :=
 TG (A4 = true) (a0y H9 H) false H (fun (b : Bool) (c : Hp) =>
 ((A4 && b) = true →
 B3 (d7.mk p8 p9 o6 (Sl.mk none 0 0)) o7 c (fun a d e =>
 z7 (s7 a) d e (fun f g i =>
 n2 (f, g, a.fs, a.fn, a.fat, d) i))) ∧
 ((A4 && b) = false →
 y7 b0V p8 p9 o6 o7 c K))
def L3 (x0 : d7) (a : (List b5)) (H : Hp) (K : ByteArray → d7 → (List b5) → Hp → Prop) : Prop :=
 z7 (s7 x0) a H (fun b c d =>
 TL ((b, c, x0.fs, x0.fn, x0.fat, a) : Int × Bool × ByteArray × Int × b8 × (List b5)) d fun (s : Int × Bool × ByteArray × Int × b8 × (List b5)) H n2 => A9 x0.fn s.1 s.2.1 s.2.2.1 s.2.2.2.1 s.2.2.2.2.1 s.2.2.2.2.2 H n2 K)
theorem a0T (x0 q) {H K} (h : L3 x0 q H K) : L0 x0 q H K := by
 intro g0 y z aa
 refine Ct.of fun w0 w ps0 H0 R E I hR => a9X ?_
 unfold L3 at h
 unfold b4R
 refine a7 (u2 _) (a7 V9 (g6 (l1 Tryz.isAgg3 I rfl) ?_))
 have hj1 : ∀ (t7 : ByteArray) (t8 : Int) (y9 : b8) (C3 : (List b5)) (T1 : Sl) (M5 : Frag) H w (_ : RowL 103 5 f9 T1 C3 M5) (_ : Inv w0 ps0 H0 H [bx g0 155 [(Value.string t7), (vi t8), (vi y9.D9), (vi y9.L6), (vs T1)], M5] w) (_ : y7 x0.fn t7 t8 y9 C3 H K), a4L (Value.pointer (some ⟨g0, 0, none⟩)) (vi x0.fn) w R E := by
  intro t7 t8 y9 C3 T1 M5 H w a2Z I h
  unfold a4L
  intro _
  unfold y7 at h
  refine W4 I fun ax r => ?_
  refine r8 (u2 _) ?_
  refine r8 a5c ?_
  refine r8 (u2 _) ?_
  refine r8 V9 ?_
  refine C4 (l1 Tryz.isAgg9 r rfl) ?_
  refine C4 (l1 Tryz.isAgg3 r rfl) ?_
  obtain ⟨ak, al, am, h⟩ := h
  refine r8 (a8C t7 Tryz.underlying9 ak al am) ?_
  exact hR _ H _ _ ((r.bring 1).bring 1) ⟨(t7.extract (x0.fn : Int).toNat (t8 : Int).toNat), (d7.mk t7 t8 y9 (Sl.mk none 0 0)), C3, T1, M5, rfl, rfl, a2Z, h⟩
 refine z8 fun j1 hx1 => ?_
 refine g9 Tryz.call100 (h g0 y z aa) ((I.bring 1).bring 1) ?_
 rintro _ an _ ay ao _ _ ⟨ab, ac, rfl, rfl, h⟩
 refine a7 (j9 _ _ (Value.int .i32 ab) rfl) (a7 (j9 _ _ (vB ac) rfl) ?_)
 obtain ⟨t, g, ap, aq⟩ := h
 refine G7 (J := fun n l w => ∃ (s : Int × Bool × ByteArray × Int × b8 × (List b5)) (H : Hp) (K4 : Sl) (D7 : Frag) , n = g s ∧ l = (match s with | (H9, A4, p8, p9, o6, o7) => [(Value.int .i32 H9), (vB A4)]) ∧ (match s with | (H9, A4, p8, p9, o6, o7) => RowL 103 5 f9 K4 o7 D7) ∧ (match s with | (H9, A4, p8, p9, o6, o7) => Inv w0 ps0 H0 H [bx g0 155 [(Value.string p8), (vi p9), (vi o6.D9), (vi o6.L6), (vs K4)], D7] w) ∧ t s H) ⟨_, (ab, ac, x0.fs, x0.fn, x0.fat, q), an, y, z, rfl, rfl, aa, ((ao.bring 1).bring 1), ap⟩ ?_
 rintro az ba w next2 ⟨⟨H9, A4, p8, p9, o6, o7⟩, H, K4, D7, rfl, u, Q1, I, ar⟩ hn2
 dsimp only at u I Q1
 simp only [List.map_cons, List.map_nil, List.cons.injEq, and_true] at u
 obtain ⟨e6, e7⟩ := u
 simp only [e6, e7]
 obtain ⟨n2, hm2, h⟩ : ∃ n2 : (Int × Bool × ByteArray × Int × b8 × (List b5)) → Hp → Prop, (∀ s' H', n2 s' H' → t s' H' ∧ g s' < g (H9, A4, p8, p9, o6, o7)) ∧ A9 x0.fn H9 A4 p8 p9 o6 o7 H n2 K := ⟨_, fun _ _ h => h, aq (H9, A4, p8, p9, o6, o7) H (fun s' H' => t s' H' ∧ g s' < g (H9, A4, p8, p9, o6, o7)) ar (fun _ _ a b => ⟨a, b⟩)⟩
 unfold a8p
 unfold A9 at h
 simp only [E5]
 refine G6 (D := fun ad j => ∃ (f : Bool) (c : Hp) , ad = (gv A4 true (vB f)) ∧ (Inv w0 ps0 H0 c [bx g0 155 [(Value.string p8), (vi p9), (vi o6.D9), (vi o6.L6), (vs K4)], D7] j) ∧ (∀ i, i < w.heap.size → ¬ inF [] i → j.heap[i]? = w.heap[i]?) ∧ Hle H c ∧ (((A4 && f) = true →
 B3 (d7.mk p8 p9 o6 (Sl.mk none 0 0)) o7 c (fun (d : d7) (k : (List b5)) (au : Hp) =>
 z7 (s7 d) k au (fun (m : Int) (o : Bool) (v : Hp) =>
 n2 (m, o, d.fs, d.fn, d.fat, k) v))) ∧
 ((A4 && f) = false →
 y7 x0.fn p8 p9 o6 o7 c K))) (fun e => ?_) (fun e => ?_) ?_
 ·replace h := h.1 e
  have ae := e
  simp only [m1 ae]
  refine g9 Tryz.call157 h I ?_
  rintro _ c _ j p af ag ⟨f, rfl, rfl, h⟩
  exact ⟨f, c, by rfl, p, ag, af, h⟩
 ·exact ⟨false, H, by rw [R8 e], I, fun _ _ _ => rfl, Hle.refl _, h.2 e⟩
 ·clear h
  rintro ad j ⟨f, c, rfl, p, ag, af, h⟩
  refine a7 (C1 _ _) ?_
  refine p7 h (fun _ h => ?_) (fun _ h => ?_)
  ·refine g9 Tryz.call152 (h g0 K4 D7 Q1) ((p.bring 1).bring 1) ?_
   rintro _ _ _ bb av _ _ ⟨d, k, ah, ai, rfl, rfl, aj, h⟩
   refine g9 Tryz.call100 (h g0 ah ai aj) ((av.bring 1).bring 1) ?_
   rintro _ v _ bc aw _ _ ⟨m, o, rfl, rfl, h⟩
   refine a7 (j9 _ _ (Value.int .i32 m) rfl) (a7 (j9 _ _ (vB o) rfl) ?_)
   exact hn2 _ _ _ (hm2 _ _ h).2 ⟨(m, o, d.fs, d.fn, d.fat, k), v, ah, ai, rfl, rfl, aj, ((aw.bring 1).bring 1), (hm2 _ _ h).1⟩
  ·exact hx1 _ _ (hj1 p8 p9 o6 o7 K4 D7 c _ Q1 ((p.bring 1).bring 1) h)
def a3O (x0 : b9) (H : Hp) (K : d8 → Hp → Prop) : Prop :=
 K (d8.G9 (N0.mk x0)) H
theorem a8T (x0) {H K} (h : a3O x0 H K) : a5J x0 H K := by
 refine Ct.of fun w0 w ps0 H0 R E I hR => c2s ?_
 unfold a3O at h
 unfold c5o
 refine T7 I (cs := (d9 x0)) rfl fun b c a d => ?_
 refine g6 (lW Tryz.isAgg40 Tryz.sizeOf40 rfl a) (a7 (b4k _ _ _ _ _ _) (a7 (a8m (N0.mk x0)) ?_))
 exact hR _ H _ _ a.drop ⟨(d8.G9 (N0.mk x0)), rfl, rfl, h⟩
def D2 (U8 : (List d8)) (H : Hp) (K : Sl → Hp → Prop) : Prop :=
 ∀ (E3 : Sl) (a : Hp), Hle H a → SlH a 1 v7 E3 U8 → E3.n ≤ E3.c →
 K E3 a
def D3 (B9 : Sl) (a4u : Int) (y8 : (List d8)) (u1 : Int) (H : Hp) (n2 : ((List d8) × Int) → Hp → Prop) (K : Sl → Hp → Prop) : Prop :=
 (u1 < a4u →
 (0 : Int) ≤ u1 ∧ (u1 : Int) < B9.n ∧ ∃ a : f8, EltH H B9 u1 4 (g8 a) ∧
 a5K a H (fun b c =>
 (y8.length + ([b] : List d8).length) * 17 ≤ 140737488355328 ∧
 n2 ((y8 ++ [b]), (IntKind.wrap .i64 (u1 + 1))) c)) ∧
 (¬ (u1 < a4u) →
 D2 y8 H K)
def K8 (x0 : Sl) (H : Hp) (K : Sl → Hp → Prop) : Prop :=
 TL (([], 0) : (List d8) × Int) H fun (s : (List d8) × Int) H n2 => D3 x0 (x0.n : Int) s.1 s.2 H n2 K
theorem a0G (x0) {H K} (h : K8 x0 H K) : E0 x0 H K := by
 refine Ct.of fun w0 w ps0 H0 R E I hR => c2v ?_
 unfold K8 at h
 unfold c5r
 have hj1 : ∀ (U8 : (List d8)) (E3 : Sl) (Fs5j1 : Frag) H w (_ : RowL 131 1 v7 E3 U8 Fs5j1) (_ : Inv w0 ps0 H0 H [Fs5j1] w) (_ : D2 U8 H K), b2F (vs E3) w R E := by
  intro U8 E3 Fs5j1 H w a7e I h
  unfold b2F
  intro _
  unfold D2 at h
  obtain ⟨k, q, r, t, u⟩ := Inv.freezeC I a7e (by decide)
  replace h := h E3 k r t u
  exact hR _ k _ _ q ⟨E3, rfl, rfl, h⟩
 refine z8 fun j1 hx1 => ?_
 refine a7 (a5n _ _ _) ?_
 obtain ⟨f, d, v, y⟩ := h
 refine G7 (J := fun n l w => ∃ (s : (List d8) × Int) (H : Hp) (V0 : Sl) (Fs5l2 : Frag) , n = d s ∧ l = (match s with | (y8, u1) => [(vs V0), (vi u1)]) ∧ (match s with | (y8, u1) => RowL 131 1 v7 V0 y8 Fs5l2) ∧ (match s with | (y8, u1) => Inv w0 ps0 H0 H [Fs5l2] w) ∧ f s H) ⟨_, ([], 0), H, (Sl.mk none 0 0), [], rfl, rfl, (RowL.nil S0 U2), I.nil, v⟩ ?_
 rintro am an w next2 ⟨⟨y8, u1⟩, H, V0, Fs5l2, rfl, g, a1M, I, z⟩ hn2
 dsimp only at g I a1M
 simp only [List.map_cons, List.map_nil, List.cons.injEq, and_true] at g
 obtain ⟨e5, e10⟩ := g
 simp only [e5, e10]
 obtain ⟨n2, hm2, h⟩ : ∃ n2 : ((List d8) × Int) → Hp → Prop, (∀ s' H', n2 s' H' → f s' H' ∧ d s' < d (y8, u1)) ∧ D3 x0 (x0.n : Int) y8 u1 H n2 K := ⟨_, fun _ _ h => h, y (y8, u1) H (fun s' H' => f s' H' ∧ d s' < d (y8, u1)) z (fun _ _ a b => ⟨a, b⟩)⟩
 unfold b6y
 unfold D3 at h
 refine a7 pLs ?_
 refine m6 h (fun _ h => ?_) (fun _ h => ?_)
 ·obtain ⟨aa, ab, i, j, h⟩ := h
  obtain ⟨ao, ap, ac, j⟩ := j
  refine a7 (b0T ac _ _ _ _ aa ab) (g6 (ldA (vs := (g8 i)) Tryz.isAgg49 Tryz.sizeOf49 rfl (I.atH j)) ?_)
  refine p6 I Tryz.zeroValue49 (cs := [(vi 0), (vi 0), (nS), (nS)]) rfl fun aq ar ad au => ?_
  refine i6 ad Tryz.sizeOf49 (vs := (g8 i)) (cs' := (g8 i)) rfl rfl (nb rfl) rfl rfl fun av m aw => ?_
  refine g6 (lW Tryz.isAgg49 Tryz.sizeOf49 rfl m) ?_
  refine g9 Tryz.call212 h m ?_
  rintro _ ae _ ax af _ _ ⟨o, rfl, rfl, h⟩
  refine W5 (e := 131) (c := v7) (xs := [o]) af (a8F _) rfl rfl S0 U2 (nb rfl) fun ay az ba ag p bb => ?_
  obtain ⟨ah, h⟩ := h
  refine a8n (s := V0) (xs := y8) (p.bring 2) a1M (ag.srcO ((p.bring 2).bring 1)) ah fun ai aj bc ak al bd => ?_
  refine a7 pAd ?_
  exact hn2 _ _ _ (hm2 _ _ h).2 ⟨((y8 ++ [o]), (IntKind.wrap .i64 (u1 + 1))), ae, ai, aj, rfl, rfl, ak, ((al.bring 1).drop.bring 1).drop, (hm2 _ _ h).1⟩
 ·exact hx1 _ _ (hj1 y8 V0 Fs5l2 H _ a1M I h)
def a2j (x0 : W0) (H : Hp) (K : Sl → Hp → Prop) : Prop :=
 K (Sl.mk none 0 0) H
theorem a7C (x0) {H K} (h : a2j x0 H K) : a4s x0 H K := by
 refine Ct.of fun w0 w ps0 H0 R E I hR => c2y ?_
 unfold a2j at h
 unfold c5u
 refine T7 I (cs := (y3 x0.X0)) rfl fun b c a d => ?_
 exact hR _ H _ _ a.drop ⟨(Sl.mk none 0 0), rfl, rfl, h⟩
def P5 (a1x : Bool) (c1g : Int) (b0g : Bool) (a : Q0) (b : T0) (H : Hp) (K : Bool → Hp → Prop) : Prop :=
 (b0g = true →
 K (a1x && (decide (a.fexprs = 0 ∧ a.fconds = 1))) H) ∧
 (b0g = false →
 (c1g = 7 →
 K (a1x && (decide (a.fexprs = 0 ∧ a.fconds = 0))) H) ∧
 (¬ (c1g = 7) →
 K false H))
def a2G (x0 : T0) (H : Hp) (K : Bool → Hp → Prop) : Prop :=
 (x0.i8.c8 = 1 →
 K ((!(decide (0 < (IntKind.wrap .i64 ((x0.i8.L5.n : Int) + (x0.i8.I0.n : Int)))))) && (decide ((x0.i8.m7.n : Int) = 1 ∧ (x0.i8.A6.n : Int) = 0))) H) ∧
 (¬ (x0.i8.c8 = 1) →
 (x0.i8.c8 = 2 →
 K ((!(decide (0 < (IntKind.wrap .i64 ((x0.i8.L5.n : Int) + (x0.i8.I0.n : Int)))))) && (decide ((x0.i8.m7.n : Int) = 2 ∧ (x0.i8.A6.n : Int) = 0))) H) ∧
 (¬ (x0.i8.c8 = 2) →
 (x0.i8.c8 = 3 →
 K ((decide (x0.i8.o9 = ⟨#[]⟩)) && (decide ((x0.i8.m7.n : Int) = 0 ∧ (x0.i8.A6.n : Int) = 1))) H) ∧
 (¬ (x0.i8.c8 = 3) →
 (x0.i8.c8 = 4 →
 K (((decide (x0.i8.o9 = ⟨#[]⟩)) && (decide ((x0.i8.I0.n : Int) = 0))) && (decide ((x0.i8.m7.n : Int) = 0 ∧ (x0.i8.A6.n : Int) = 1))) H) ∧
 (¬ (x0.i8.c8 = 4) →
 (x0.i8.c8 = 5 →
 P5 ((decide (x0.i8.o9 = ⟨#[]⟩)) && (!(decide (0 < (IntKind.wrap .i64 ((x0.i8.L5.n : Int) + (x0.i8.I0.n : Int))))))) x0.i8.c8 (decide (x0.i8.c8 = 5)) (Q0.mk (x0.i8.m7.n : Int) (x0.i8.A6.n : Int)) x0 H K) ∧
 (¬ (x0.i8.c8 = 5) →
 P5 ((decide (x0.i8.o9 = ⟨#[]⟩)) && (!(decide (0 < (IntKind.wrap .i64 ((x0.i8.L5.n : Int) + (x0.i8.I0.n : Int))))))) x0.i8.c8 (decide (x0.i8.c8 = 6)) (Q0.mk (x0.i8.m7.n : Int) (x0.i8.A6.n : Int)) x0 H K)))))
theorem a7M (x0) {H K} (h : a2G x0 H K) : a2A x0 H K := by
 refine Ct.of fun w0 w ps0 H0 R E I hR => c2z ?_
 unfold a2G at h
 unfold c5v
 refine T7 I (cs := (l8 x0.i8)) rfl fun e i c j => ?_
 refine a7 O0 (a7 a4F (g6 (l1 Tryz.isAgg24 c rfl) (a7 (a3u _ _ _) (a7 O0 ?_))))
 refine a7 a4G (g6 (l1 Tryz.isAgg24 c rfl) (a7 (a3u _ _ _) (a7 pAd (a7 pGt ?_))))
 refine a7 O0 (a7 a0K (g6 (l1 Tryz.isAgg38 c rfl) (a7 (a3v _ _ _) (a7 O0 ?_))))
 refine a7 a2N (g6 (l1 Tryz.isAgg47 c rfl) (a7 (a5n _ _ _) (a7 (a1O _ _) ?_)))
 refine p6 c Tryz.zeroValue264 (cs := [(vi 0), (vi 0)]) rfl fun d k f l => ?_
 refine i6 f Tryz.sizeOf264 (vs := [(vi (x0.i8.m7.n : Int)), (vi (x0.i8.A6.n : Int))]) (cs' := [(vi (x0.i8.m7.n : Int)), (vi (x0.i8.A6.n : Int))]) rfl rfl (nb rfl) rfl rfl fun m b p => ?_
 refine a7 O0 (a7 a3D (g6 (l1 Tryz.isAgg9 (b.bring 1) rfl) (a7 (R9 _ _ _ _ _) ?_)))
 simp only [E5]
 refine a7 (Pu.g fun a => by simp only [m1 a]; with_reducible exact (T2 _)) ?_
 refine a7 (C1 _ _) (a7 O0 (a7 X9 (g6 (l1 Tryz.isAgg3 (b.bring 1) rfl) (a7 pEq ?_))))
 refine m6 h (fun _ h => ?_) (fun _ h => ?_)
 ·refine a7 (T2 _) ?_
  refine g6 (Ld.g fun a => by exact (ldA Tryz.isAgg264 Tryz.sizeOf264 rfl (b.at1 (o := 0) (vs := [(vi (x0.i8.m7.n : Int)), (vi (x0.i8.A6.n : Int))]) (nb rfl) rfl))) ?_
  refine a7 (Pu.g fun a => by with_reducible exact (a1O _ _)) ?_
  refine a7 (Pu.g fun a => by simp only [m1 a]; with_reducible exact (a5o _ _ _ _ _ _)) ?_
  refine a7 (C1 _ _) ?_
  exact hR _ H _ _ b.drop.drop ⟨((!(decide (0 < (IntKind.wrap .i64 ((x0.i8.L5.n : Int) + (x0.i8.I0.n : Int)))))) && (decide ((x0.i8.m7.n : Int) = 1 ∧ (x0.i8.A6.n : Int) = 0))), rfl, rfl, h⟩
 ·refine a7 pEq ?_
  refine m6 h (fun _ h => ?_) (fun _ h => ?_)
  ·refine a7 (T2 _) ?_
   refine g6 (Ld.g fun a => by exact (ldA Tryz.isAgg264 Tryz.sizeOf264 rfl (b.at1 (o := 0) (vs := [(vi (x0.i8.m7.n : Int)), (vi (x0.i8.A6.n : Int))]) (nb rfl) rfl))) ?_
   refine a7 (Pu.g fun a => by with_reducible exact (a1O _ _)) ?_
   refine a7 (Pu.g fun a => by simp only [m1 a]; with_reducible exact (a5o _ _ _ _ _ _)) ?_
   refine a7 (C1 _ _) ?_
   exact hR _ H _ _ b.drop.drop ⟨((!(decide (0 < (IntKind.wrap .i64 ((x0.i8.L5.n : Int) + (x0.i8.I0.n : Int)))))) && (decide ((x0.i8.m7.n : Int) = 2 ∧ (x0.i8.A6.n : Int) = 0))), rfl, rfl, h⟩
  ·refine a7 pEq ?_
   refine m6 h (fun _ h => ?_) (fun _ h => ?_)
   ·refine a7 O0 (a7 a3D (g6 (l1 Tryz.isAgg9 (b.bring 1) rfl) (a7 (R9 _ _ _ _ _) ?_)))
    refine g6 (Ld.g fun a => by exact (ldA Tryz.isAgg264 Tryz.sizeOf264 rfl (b.at1 (o := 0) (vs := [(vi (x0.i8.m7.n : Int)), (vi (x0.i8.A6.n : Int))]) (nb rfl) rfl))) ?_
    refine a7 (Pu.g fun a => by with_reducible exact (a1O _ _)) ?_
    refine a7 (Pu.g fun a => by simp only [m1 a]; with_reducible exact (a5o _ _ _ _ _ _)) ?_
    refine a7 (C1 _ _) ?_
    exact hR _ H _ _ b.drop.drop ⟨((decide (x0.i8.o9 = ⟨#[]⟩)) && (decide ((x0.i8.m7.n : Int) = 0 ∧ (x0.i8.A6.n : Int) = 1))), rfl, rfl, h⟩
   ·refine a7 pEq ?_
    refine m6 h (fun _ h => ?_) (fun _ h => ?_)
    ·refine a7 O0 (a7 a3D (g6 (l1 Tryz.isAgg9 (b.bring 1) rfl) (a7 (R9 _ _ _ _ _) ?_)))
     refine a7 (Pu.g fun a => by with_reducible exact O0) ?_
     refine a7 (Pu.g fun a => by simp only [m1 a]; with_reducible exact a4G) ?_
     refine g6 (Ld.g fun a => by simp only [m1 a]; exact (l1 Tryz.isAgg24 (b.bring 1) rfl)) ?_
     refine a7 (Pu.g fun a => by simp only [m1 a]; with_reducible exact (a3u _ _ _)) ?_
     refine a7 (Pu.g fun a => by simp only [m1 a]; with_reducible exact pEq) ?_
     refine a7 (C1 _ _) ?_
     refine g6 (Ld.g fun a => by exact (ldA Tryz.isAgg264 Tryz.sizeOf264 rfl (b.at1 (o := 0) (vs := [(vi (x0.i8.m7.n : Int)), (vi (x0.i8.A6.n : Int))]) (nb rfl) rfl))) ?_
     refine a7 (Pu.g fun a => by with_reducible exact (a1O _ _)) ?_
     refine a7 (Pu.g fun a => by simp only [m1 a]; with_reducible exact (a5o _ _ _ _ _ _)) ?_
     refine a7 (C1 _ _) ?_
     exact hR _ H _ _ b.drop.drop ⟨(((decide (x0.i8.o9 = ⟨#[]⟩)) && (decide ((x0.i8.I0.n : Int) = 0))) && (decide ((x0.i8.m7.n : Int) = 0 ∧ (x0.i8.A6.n : Int) = 1))), rfl, rfl, h⟩
    ·have hj1 : ∀ (b0g : Bool) H w (_ : Inv w0 ps0 H0 H [bx d 264 [(vi (Q0.mk (x0.i8.m7.n : Int) (x0.i8.A6.n : Int)).fexprs), (vi (Q0.mk (x0.i8.m7.n : Int) (x0.i8.A6.n : Int)).fconds)], bx e 177 (l8 x0.i8)] w) (_ : P5 ((decide (x0.i8.o9 = ⟨#[]⟩)) && (!(decide (0 < (IntKind.wrap .i64 ((x0.i8.L5.n : Int) + (x0.i8.I0.n : Int))))))) x0.i8.c8 b0g (Q0.mk (x0.i8.m7.n : Int) (x0.i8.A6.n : Int)) x0 H K), b2G (Value.pointer (some ⟨d, 0, none⟩)) (vB ((decide (x0.i8.o9 = ⟨#[]⟩)) && (!(decide (0 < (IntKind.wrap .i64 ((x0.i8.L5.n : Int) + (x0.i8.I0.n : Int)))))))) (vi x0.i8.c8) (vB b0g) w R E := by
      intro b0g H w I h
      unfold b2G
      intro _
      unfold P5 at h
      refine p7 h (fun _ h => ?_) (fun _ h => ?_)
      ·refine g6 (Ld.g fun a => by exact (ldA Tryz.isAgg264 Tryz.sizeOf264 rfl (I.at1 (o := 0) (vs := [(vi (Q0.mk (x0.i8.m7.n : Int) (x0.i8.A6.n : Int)).fexprs), (vi (Q0.mk (x0.i8.m7.n : Int) (x0.i8.A6.n : Int)).fconds)]) (nb rfl) rfl))) ?_
       refine a7 (Pu.g fun a => by with_reducible exact (a1O _ _)) ?_
       refine a7 (Pu.g fun a => by simp only [m1 a]; with_reducible exact (a5o _ _ _ _ _ _)) ?_
       refine a7 (C1 _ _) ?_
       exact hR _ H _ _ I.drop.drop ⟨(((decide (x0.i8.o9 = ⟨#[]⟩)) && (!(decide (0 < (IntKind.wrap .i64 ((x0.i8.L5.n : Int) + (x0.i8.I0.n : Int))))))) && (decide ((Q0.mk (x0.i8.m7.n : Int) (x0.i8.A6.n : Int)).fexprs = 0 ∧ (Q0.mk (x0.i8.m7.n : Int) (x0.i8.A6.n : Int)).fconds = 1))), rfl, rfl, h⟩
      ·refine a7 pEq ?_
       refine m6 h (fun _ h => ?_) (fun _ h => ?_)
       ·refine g6 (Ld.g fun a => by exact (ldA Tryz.isAgg264 Tryz.sizeOf264 rfl (I.at1 (o := 0) (vs := [(vi (Q0.mk (x0.i8.m7.n : Int) (x0.i8.A6.n : Int)).fexprs), (vi (Q0.mk (x0.i8.m7.n : Int) (x0.i8.A6.n : Int)).fconds)]) (nb rfl) rfl))) ?_
        refine a7 (Pu.g fun a => by with_reducible exact (b7x )) ?_
        refine a7 (Pu.g fun a => by simp only [m1 a]; with_reducible exact (a5o _ _ _ _ _ _)) ?_
        refine a7 (C1 _ _) ?_
        exact hR _ H _ _ I.drop.drop ⟨(((decide (x0.i8.o9 = ⟨#[]⟩)) && (!(decide (0 < (IntKind.wrap .i64 ((x0.i8.L5.n : Int) + (x0.i8.I0.n : Int))))))) && (decide ((Q0.mk (x0.i8.m7.n : Int) (x0.i8.A6.n : Int)).fexprs = 0 ∧ (Q0.mk (x0.i8.m7.n : Int) (x0.i8.A6.n : Int)).fconds = 0))), rfl, rfl, h⟩
       ·exact hR _ H _ _ I.drop.drop ⟨false, rfl, rfl, h⟩
     refine z8 fun j1 hx1 => ?_
     refine a7 pEq ?_
     refine m6 h (fun _ h => ?_) (fun _ h => ?_)
     ·exact hx1 _ _ (hj1 (decide (x0.i8.c8 = 5)) H _ ((b.bring 1).bring 1) h)
     ·refine a7 pEq ?_
      exact hx1 _ _ (hj1 (decide (x0.i8.c8 = 6)) H _ ((b.bring 1).bring 1) h)
end Go.Proofs.YthklmeihgmcljaaGreatDoor
