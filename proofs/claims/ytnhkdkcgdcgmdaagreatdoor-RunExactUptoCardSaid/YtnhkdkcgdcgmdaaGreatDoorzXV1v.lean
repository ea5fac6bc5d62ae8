/- Typed formulas of the program's functions that few laws need; printed by lift.py off the code. -/
import Derived.Test.YtnhkdkcgdcgmdaaGreatDoorzXV1
import Derived.Test.YtnhkdkcgdcgmdaaGreatDoorzXG1v
namespace Go.Proofs.YtnhkdkcgdcgmdaaGreatDoor
open Go.RowKit
set_option maxRecDepth 100000
set_option maxHeartbeats 2000000
def a1E (H : Hp) (K : Int → Hp → Prop) : Prop :=
 K (-1) H
def a1F (a5A : Sl) (a5y : ByteArray) (A8 : Int) (H : Hp) (n2 : Int → Hp → Prop) (K : Int → Hp → Prop) : Prop :=
 (A8 < (a5A.n : Int) →
 (0 : Int) ≤ A8 ∧ (A8 : Int) < a5A.n ∧ ∃ a : i8, EltH H a5A A8 2 (o7 a) ∧
 (a.d9 = a5y →
 K A8 H) ∧
 (¬ (a.d9 = a5y) →
 n2 (IntKind.wrap .i64 (A8 + 1)) H)) ∧
 (¬ (A8 < (a5A.n : Int)) →
 a1E H K)
def a4G (x0 : Sl) (x1 : ByteArray) (H : Hp) (K : Int → Hp → Prop) : Prop :=
 TL (0 : Int) H fun (s : Int) H n2 => a1F x0 x1 s H n2 K
theorem b1s (x0 x1) {H K} (h : a4G x0 x1 H K) : a2v x0 x1 H K := by
 refine Ct.of fun w0 w ps0 H0 R E I hR => d3G ?_
 unfold a4G at h
 unfold F61
 have hj1 : ∀ H w (_ : Inv w0 ps0 H0 H [] w) (_ : a1E H K), c1q w R E := by
  intro H w I h
  unfold c1q
  intro _
  unfold a1E at h
  exact hR _ H _ _ I ⟨(-1), rfl, rfl, h⟩
 refine r5 fun j1 hx1 => ?_
 obtain ⟨d, c, g, i⟩ := h
 refine y7 (J := fun n l w => ∃ (s : Int) (H : Hp) , n = c s ∧ l = [(vi s)] ∧ Inv w0 ps0 H0 H [] w ∧ d s H) ⟨_, 0, H, rfl, rfl, I, g⟩ ?_
 rintro r t w next2 ⟨A8, H, rfl, f, I, j⟩ hn2
 simp only [List.map_cons, List.map_nil, List.cons.injEq, and_true] at f
 have e5 := f
 simp only [e5]
 obtain ⟨n2, hm2, h⟩ : ∃ n2 : Int → Hp → Prop, (∀ s' H', n2 s' H' → d s' H' ∧ c s' < c A8) ∧ a1F x0 x1 A8 H n2 K := ⟨_, fun _ _ h => h, i A8 H (fun s' H' => d s' H' ∧ c s' < c A8) j (fun _ _ a b => ⟨a, b⟩)⟩
 unfold c5U
 unfold a1F at h
 refine a8 (a3w _ _ _) (a8 pLs ?_)
 refine f6 h (fun _ h => ?_) (fun _ h => ?_)
 ·obtain ⟨m, o, p, e, h⟩ := h
  obtain ⟨u, y, q, e⟩ := e
  refine a8 (a1x q _ _ _ _ m o) (a8 Q5 (b6 (ld1 (v := (Value.string p.d9)) Tryz.isAgg9 ((I.atH e).sub (k := 0) (n := 1) (nb rfl))) (a8 (Q3 _ _ _ _ _) ?_)))
  refine f6 h (fun _ h => ?_) (fun _ h => ?_)
  ·exact hR _ H _ _ I ⟨A8, rfl, rfl, h⟩
  ·refine a8 pAd ?_
   exact hn2 _ _ _ (hm2 _ _ h).2 ⟨(IntKind.wrap .i64 (A8 + 1)), H, rfl, rfl, I, (hm2 _ _ h).1⟩
 ·exact hx1 _ _ (hj1 H _ I h)
def Q1 (b2B : Int) (b4z : Int) (c4a : Int) (a : i8) (d : o3) (H : Hp) (n4 : (Int × Int × Int) → Hp → Prop) (K : ByteArray → Int → Hp → Prop) : Prop :=
 (0 : Int) ≤ c4a ∧ (c4a : Int) ≤ d.D9.c ∧
 a2v (d.D9.cut 0 (c4a : Int).toNat d.D9.c 2) a.d9 H (fun e b =>
 (0 ≤ e →
 K a.d9 60 b) ∧
 (¬ (0 ≤ e) →
 (1024 < a.A4 →
 K a.d9 61 b) ∧
 (¬ (1024 < a.A4) →
 (((decide (32 < b2B)) || (decide (16 < b4z))) = true →
 K a.d9 62 b) ∧
 (((decide (32 < b2B)) || (decide (16 < b4z))) = false →
 n4 (b2B, b4z, (IntKind.wrap .i64 (c4a + 1))) b))))
def a1l (a : o3) (H : Hp) (K : ByteArray → Int → Hp → Prop) : Prop :=
 K ⟨#[]⟩ 0 H
def a1m (b3F : Sl) (c : o3) (a0B : Int) (H : Hp) (n3 : Int → Hp → Prop) (K : ByteArray → Int → Hp → Prop) : Prop :=
 (a0B < (b3F.n : Int) →
 (0 : Int) ≤ a0B ∧ (a0B : Int) < b3F.n ∧ ∃ a : d8, EltH H b3F a0B 2 (t7 a) ∧
 a2v c.D9 a.d9 H (fun b d =>
 (b < 0 →
 K a.d9 63 d) ∧
 (¬ (b < 0) →
 (0 : Int) ≤ b ∧ (b : Int) < c.D9.n ∧ ∃ e : i8, EltH d c.D9 b 2 (o7 e) ∧
 (((decide (0 < e.A4)) != a.b0h) = true →
 K a.d9 64 d) ∧
 (((decide (0 < e.A4)) != a.b0h) = false →
 n3 (IntKind.wrap .i64 (a0B + 1)) d)))) ∧
 (¬ (a0B < (b3F.n : Int)) →
 a1l c H K)
def a1o (a : o3) (H : Hp) (K : ByteArray → Int → Hp → Prop) : Prop :=
 a4v a H (fun b c =>
 TL (0 : Int) c fun (s : Int) H n3 => a1m b a s H n3 K)
def a1p (a : o3) (G2 : Int) (b0c : Int) (a6J : Int) (H : Hp) (n4 : (Int × Int × Int) → Hp → Prop) (K : ByteArray → Int → Hp → Prop) : Prop :=
 (a6J < (a.D9.n : Int) →
 (0 : Int) ≤ a6J ∧ (a6J : Int) < a.D9.n ∧ ∃ b : i8, EltH H a.D9 a6J 2 (o7 b) ∧
 (b.A4 = 0 →
 Q1 (IntKind.wrap .i64 (G2 + 1)) b0c a6J b a H n4 K) ∧
 (¬ (b.A4 = 0) →
 Q1 G2 (IntKind.wrap .i64 (b0c + 1)) a6J b a H n4 K)) ∧
 (¬ (a6J < (a.D9.n : Int)) →
 a1o a H K)
def a4i (x0 : o3) (H : Hp) (K : ByteArray → Int → Hp → Prop) : Prop :=
 a4b x0 H (fun a b =>
 (¬ (a = 0) →
 K ⟨#[]⟩ a b) ∧
 (a = 0 →
 TL ((0, 0, 0) : Int × Int × Int) b fun (s : Int × Int × Int) H n4 => a1p x0 s.1 s.2.1 s.2.2 H n4 K))
theorem b0B (x0) {H K} (h : a4i x0 H K) : a4c x0 H K := by
 refine Ct.of fun w0 w ps0 H0 R E I hR => d3B ?_
 unfold a4i at h
 unfold F35
 refine F0 I (cs := (q7 x0)) rfl fun e bk aj bl => ?_
 refine b6 (lW Tryz.isAgg25 Tryz.sizeOf25 rfl aj) ?_
 refine i6 Tryz.call27 h aj ?_
 rintro _ ak _ bm al _ _ ⟨ao, rfl, rfl, h⟩
 refine a8 pNe ?_
 refine a1v h (fun _ h => ?_) (fun _ h => ?_)
 ·exact hR _ ak _ _ al.drop ⟨⟨#[]⟩, ao, rfl, rfl, h⟩
 ·have hj1 : ∀ H w (_ : Inv w0 ps0 H0 H [bx e 25 (q7 x0)] w) (_ : a1o x0 H K), c1g (Value.pointer (some ⟨e, 0, none⟩)) w R E := by
   intro H w I h
   unfold c1g
   intro _
   unfold a1o at h
   refine b6 (lW Tryz.isAgg25 Tryz.sizeOf25 rfl I) ?_
   refine i6 Tryz.call62 h I ?_
   rintro _ ap _ bn aq _ _ ⟨ar, rfl, rfl, h⟩
   have hj2 : ∀ H w (_ : Inv w0 ps0 H0 H [bx e 25 (q7 x0)] w) (_ : a1l x0 H K), c1f w R E := by
    intro H w I h
    unfold c1f
    intro _
    unfold a1l at h
    exact hR _ H _ _ I.drop ⟨⟨#[]⟩, 0, rfl, rfl, h⟩
   refine r5 fun j2 hx2 => ?_
   obtain ⟨y, o, au, av⟩ := h
   refine y7 (J := fun n l w => ∃ (s : Int) (H : Hp) , n = o s ∧ l = [(vi s)] ∧ Inv w0 ps0 H0 H [bx e 25 (q7 x0)] w ∧ y s H) ⟨_, 0, ap, rfl, rfl, aq, au⟩ ?_
   rintro bo bp w next3 ⟨a0B, H, rfl, am, I, aw⟩ hn3
   simp only [List.map_cons, List.map_nil, List.cons.injEq, and_true] at am
   have e10 := am
   simp only [e10]
   obtain ⟨n3, hm3, h⟩ : ∃ n3 : Int → Hp → Prop, (∀ s' H', n3 s' H' → y s' H' ∧ o s' < o a0B) ∧ a1m ar x0 a0B H n3 K := ⟨_, fun _ _ h => h, av a0B H (fun s' H' => y s' H' ∧ o s' < o a0B) aw (fun _ _ a b => ⟨a, b⟩)⟩
   unfold c5L
   unfold a1m at h
   refine a8 (c3o _ _ _) (a8 pLs ?_)
   refine f6 h (fun _ h => ?_) (fun _ h => ?_)
   ·refine U6 I fun bq z => ?_
    refine j8 O1 ?_
    obtain ⟨q, r, f, i, h⟩ := h
    obtain ⟨br, bs, t, i⟩ := i
    refine j8 (b2a t _ _ _ _ q r) ?_
    refine j8 b2n ?_
    refine u7 (l1 Tryz.isAgg22 z rfl) ?_
    refine u7 (ld1 (v := (Value.string f.d9)) Tryz.isAgg9 ((z.atH i).sub (k := 0) (n := 1) (nb rfl))) ?_
    refine i6 Tryz.call61 h z ?_
    rintro _ aa _ bt ab ac _ ⟨bu, rfl, rfl, h⟩
    refine a8 pLs ?_
    refine f6 h (fun _ h => ?_) (fun _ h => ?_)
    ·refine a8 (b2a t _ _ _ _ q r) (a8 b2n (b6 (ld1 (v := (Value.string f.d9)) Tryz.isAgg9 ((ab.atH (i.le ac)).sub (k := 0) (n := 1) (nb rfl))) ?_))
     exact hR _ aa _ _ ab.drop ⟨f.d9, 63, rfl, rfl, h⟩
    ·refine U6 ab fun bv j => ?_
     refine j8 O1 ?_
     refine j8 (b2a t _ _ _ _ q r) ?_
     refine j8 c1J ?_
     refine u7 (l1 Tryz.isAgg22 j rfl) ?_
     obtain ⟨ax, ay, az, ad, h⟩ := h
     obtain ⟨bw, bz, ba, ad⟩ := ad
     refine j8 (a1x ba _ _ _ _ ax ay) ?_
     refine j8 V9 ?_
     refine u7 (ld1 (v := (vi az.A4)) Tryz.isAgg3 ((j.atH ad).sub (k := 1) (n := 1) (nb rfl))) ?_
     refine j8 pGt ?_
     refine u7 (ld1 (v := (vB f.b0h)) Tryz.isAgg4 ((j.atH (i.le ac)).sub (k := 1) (n := 1) (nb rfl))) ?_
     refine j8 (b0W _ _ _ _) ?_
     refine m5 h (fun _ h => ?_) (fun _ h => ?_)
     ·refine a8 (b2a t _ _ _ _ q r) (a8 b2n (b6 (ld1 (v := (Value.string f.d9)) Tryz.isAgg9 ((j.atH (i.le ac)).sub (k := 0) (n := 1) (nb rfl))) ?_))
      exact hR _ aa _ _ j.drop ⟨f.d9, 64, rfl, rfl, h⟩
     ·refine a8 pAd ?_
      exact hn3 _ _ _ (hm3 _ _ h).2 ⟨(IntKind.wrap .i64 (a0B + 1)), aa, rfl, rfl, j, (hm3 _ _ h).1⟩
   ·exact hx2 _ _ (hj2 H _ I h)
  refine r5 fun j1 hx1 => ?_
  obtain ⟨ae, p, bb, bc⟩ := h
  refine y7 (J := fun n l w => ∃ (s : Int × Int × Int) (H : Hp) , n = p s ∧ l = (match s with | (G2, b0c, a6J) => [(vi G2), (vi b0c), (vi a6J)]) ∧ (match s with | (G2, b0c, a6J) => Inv w0 ps0 H0 H [bx e 25 (q7 x0)] w) ∧ ae s H) ⟨_, (0, 0, 0), ak, rfl, rfl, al, bb⟩ ?_
  rintro ca cb w next4 ⟨⟨G2, b0c, a6J⟩, H, rfl, af, I, bd⟩ hn4
  dsimp only at af I
  simp only [List.map_cons, List.map_nil, List.cons.injEq, and_true] at af
  obtain ⟨e5, e6, e7⟩ := af
  simp only [e5, e6, e7]
  obtain ⟨n4, hm4, h⟩ : ∃ n4 : (Int × Int × Int) → Hp → Prop, (∀ s' H', n4 s' H' → ae s' H' ∧ p s' < p (G2, b0c, a6J)) ∧ a1p x0 G2 b0c a6J H n4 K := ⟨_, fun _ _ h => h, bc (G2, b0c, a6J) H (fun s' H' => ae s' H' ∧ p s' < p (G2, b0c, a6J)) bd (fun _ _ a b => ⟨a, b⟩)⟩
  unfold c5M
  unfold a1p at h
  refine a8 O1 (b6 (l1 Tryz.isAgg22 I rfl) (a8 (a3w _ _ _) (a8 pLs ?_)))
  refine f6 h (fun _ h => ?_) (fun _ h => ?_)
  ·refine a8 O1 (b6 (l1 Tryz.isAgg22 I rfl) ?_)
   obtain ⟨be, bf, c, ag, h⟩ := h
   obtain ⟨cc, cd, bg, ag⟩ := ag
   refine a8 (a1x bg _ _ _ _ be bf) (b6 (ldA (vs := (o7 c)) Tryz.isAgg71 Tryz.sizeOf71 rfl (I.atH ag)) ?_)
   refine B9 I Tryz.zeroValue71 (cs := [(eS), (vi 0)]) rfl fun an ce bh cf => ?_
   refine o4 bh Tryz.sizeOf71 (vs := (o7 c)) (cs' := (o7 c)) rfl rfl (nb rfl) rfl rfl fun cg ah ch => ?_
   have hj5 : ∀ (b2B : Int) (b4z : Int) H w (_ : Inv w0 ps0 H0 H [bx an 71 (o7 c), bx e 25 (q7 x0)] w) (_ : Q1 b2B b4z a6J c x0 H n4 K), c1h (Value.pointer (some ⟨e, 0, none⟩)) (vi b2B) (vi b4z) (vi a6J) (Value.pointer (some ⟨an, 0, none⟩)) w next4 R E := by
    intro b2B b4z H w I h
    unfold c1h
    intro _
    unfold Q1 at h
    refine U6 I fun ci ai => ?_
    refine j8 O1 ?_
    refine j8 Q5 ?_
    refine u7 (l1 Tryz.isAgg22 (ai.bring 1) rfl) ?_
    obtain ⟨bi, bj, h⟩ := h
    refine j8 (b5E Tryz.underlying22 Tryz.sizeOf71 x0.D9 bi bj) ?_
    refine u7 (l1 Tryz.isAgg9 ai rfl) ?_
    refine i6 Tryz.call61 h ai ?_
    rintro _ u _ cj d _ _ ⟨ck, rfl, rfl, h⟩
    refine j8 pGe ?_
    refine f6 h (fun _ h => ?_) (fun _ h => ?_)
    ·refine a8 Q5 (b6 (l1 Tryz.isAgg9 d rfl) ?_)
     exact hR _ u _ _ d.drop.drop ⟨c.d9, 60, rfl, rfl, h⟩
    ·refine a8 V9 (b6 (l1 Tryz.isAgg3 d rfl) (a8 pGt ?_))
     refine f6 h (fun _ h => ?_) (fun _ h => ?_)
     ·refine a8 Q5 (b6 (l1 Tryz.isAgg9 d rfl) ?_)
      exact hR _ u _ _ d.drop.drop ⟨c.d9, 61, rfl, rfl, h⟩
     ·refine a8 pGt ?_
      simp only [t8]
      refine a8 (Pu.g fun m => by simp only [g7 m]; exact pGt) ?_
      refine a8 (E8 _ _) ?_
      refine m5 h (fun _ h => ?_) (fun _ h => ?_)
      ·refine a8 Q5 (b6 (l1 Tryz.isAgg9 d rfl) ?_)
       exact hR _ u _ _ d.drop.drop ⟨c.d9, 62, rfl, rfl, h⟩
      ·refine a8 pAd ?_
       exact hn4 _ _ _ (hm4 _ _ h).2 ⟨(b2B, b4z, (IntKind.wrap .i64 (a6J + 1))), u, rfl, rfl, d.drop, (hm4 _ _ h).1⟩
   refine r5 fun j5 hx5 => ?_
   refine a8 V9 (b6 (l1 Tryz.isAgg3 ah rfl) (a8 pEq ?_))
   refine f6 h (fun _ h => ?_) (fun _ h => ?_)
   ·refine a8 pAd ?_
    exact hx5 _ _ (hj5 (IntKind.wrap .i64 (G2 + 1)) b0c H _ ((ah.bring 1).bring 1) h)
   ·refine a8 pAd ?_
    exact hx5 _ _ (hj5 G2 (IntKind.wrap .i64 (b0c + 1)) H _ ((ah.bring 1).bring 1) h)
  ·exact hx1 _ _ (hj1 H _ I h)
def Q7 (a7p : (List ByteArray)) (b5H : Int) (a : o3) (H : Hp) (n2 : ((List ByteArray) × Int) → Hp → Prop) (K : Sl → Hp → Prop) : Prop :=
 n2 (a7p, (IntKind.wrap .i64 (b5H + 1))) H
def a1G (a8Y : (List ByteArray)) (b : o3) (H : Hp) (K : Sl → Hp → Prop) : Prop :=
 ∀ (a3u : Sl) (a : Hp), Hle H a → SlH a 1 C5 a3u a8Y → a3u.n ≤ a3u.c →
 K a3u a
def a1H (a : o3) (S3 : (List ByteArray)) (F7 : Int) (H : Hp) (n2 : ((List ByteArray) × Int) → Hp → Prop) (K : Sl → Hp → Prop) : Prop :=
 (F7 < (a.D9.n : Int) →
 (0 : Int) ≤ F7 ∧ (F7 : Int) < a.D9.n ∧ ∃ b : i8, EltH H a.D9 F7 2 (o7 b) ∧
 (b.A4 = 0 →
 (S3.length + ([b.d9] : List ByteArray).length) * 17 ≤ 140737488355328 ∧
 Q7 (S3 ++ [b.d9]) F7 a H n2 K) ∧
 (¬ (b.A4 = 0) →
 Q7 S3 F7 a H n2 K)) ∧
 (¬ (F7 < (a.D9.n : Int)) →
 a1G S3 a H K)
def a4H (x0 : o3) (H : Hp) (K : Sl → Hp → Prop) : Prop :=
 TL (([], 0) : (List ByteArray) × Int) H fun (s : (List ByteArray) × Int) H n2 => a1H x0 s.1 s.2 H n2 K
theorem b1t (x0) {H K} (h : a4H x0 H K) : a4w x0 H K := by
 refine Ct.of fun w0 w ps0 H0 R E I hR => d3C ?_
 unfold a4H at h
 unfold F36
 refine F0 I (cs := (q7 x0)) rfl fun f al u am => ?_
 have hj1 : ∀ (a8Y : (List ByteArray)) (a3u : Sl) (Fs3j1 : Frag) H w (_ : RowL 9 1 C5 a3u a8Y Fs3j1) (_ : Inv w0 ps0 H0 H [bx f 25 (q7 x0), Fs3j1] w) (_ : a1G a8Y x0 H K), c1i (vs a3u) w R E := by
  intro a8Y a3u Fs3j1 H w c4b I h
  unfold c1i
  intro _
  unfold a1G at h
  obtain ⟨o, y, z, aa, ab⟩ := Inv.freezeC (I.bring 1) c4b (by decide)
  replace h := h a3u o z aa ab
  exact hR _ o _ _ y.drop ⟨a3u, rfl, rfl, h⟩
 refine r5 fun j1 hx1 => ?_
 obtain ⟨j, d, ac, ad⟩ := h
 refine y7 (J := fun n l w => ∃ (s : (List ByteArray) × Int) (H : Hp) (a7q : Sl) (Fs3l2 : Frag) , n = d s ∧ l = (match s with | (S3, F7) => [(vs a7q), (vi F7)]) ∧ (match s with | (S3, F7) => RowL 9 1 C5 a7q S3 Fs3l2) ∧ (match s with | (S3, F7) => Inv w0 ps0 H0 H [bx f 25 (q7 x0), Fs3l2] w) ∧ j s H) ⟨_, ([], 0), H, (Sl.mk none 0 0), [], rfl, rfl, (RowL.nil a6z a6A), (u.nil.bring 1), ac⟩ ?_
 rintro an ao w next2 ⟨⟨S3, F7⟩, H, a7q, Fs3l2, rfl, m, b0C, I, ae⟩ hn2
 dsimp only at m I b0C
 simp only [List.map_cons, List.map_nil, List.cons.injEq, and_true] at m
 obtain ⟨e3, e4⟩ := m
 simp only [e3, e4]
 obtain ⟨n2, hm2, h⟩ : ∃ n2 : ((List ByteArray) × Int) → Hp → Prop, (∀ s' H', n2 s' H' → j s' H' ∧ d s' < d (S3, F7)) ∧ a1H x0 S3 F7 H n2 K := ⟨_, fun _ _ h => h, ad (S3, F7) H (fun s' H' => j s' H' ∧ d s' < d (S3, F7)) ae (fun _ _ a b => ⟨a, b⟩)⟩
 unfold c5N
 unfold a1H at h
 refine a8 O1 (b6 (l1 Tryz.isAgg22 I rfl) (a8 (a3w _ _ _) (a8 pLs ?_)))
 refine f6 h (fun _ h => ?_) (fun _ h => ?_)
 ·have hj3 : ∀ (a7p : (List ByteArray)) (b0D : Sl) (Fs3j3 : Frag) H w (_ : RowL 9 1 C5 b0D a7p Fs3j3) (_ : Inv w0 ps0 H0 H [bx f 25 (q7 x0), Fs3j3] w) (_ : Q7 a7p F7 x0 H n2 K), c1j (Value.pointer (some ⟨f, 0, none⟩)) (vs b0D) (vi F7) w next2 R E := by
   intro a7p b0D Fs3j3 H w c4c I h
   unfold c1j
   intro _
   unfold Q7 at h
   refine a8 pAd ?_
   exact hn2 _ _ _ (hm2 _ _ h).2 ⟨(a7p, (IntKind.wrap .i64 (F7 + 1))), H, b0D, Fs3j3, rfl, rfl, c4c, ((I.bring 1).bring 1), (hm2 _ _ h).1⟩
  refine r5 fun j3 hx3 => ?_
  refine a8 O1 (b6 (l1 Tryz.isAgg22 I rfl) ?_)
  obtain ⟨p, q, g, i, h⟩ := h
  obtain ⟨ap, aq, r, i⟩ := i
  refine a8 (a1x r _ _ _ _ p q) (a8 V9 (b6 (ld1 (v := (vi g.A4)) Tryz.isAgg3 ((I.atH i).sub (k := 1) (n := 1) (nb rfl))) (a8 pEq ?_)))
  refine f6 h (fun _ h => ?_) (fun _ h => ?_)
  ·refine a8 O1 (b6 (l1 Tryz.isAgg22 I rfl) (a8 (a1x r _ _ _ _ p q) (a8 Q5 (b6 (ld1 (v := (Value.string g.d9)) Tryz.isAgg9 ((I.atH i).sub (k := 0) (n := 1) (nb rfl))) ?_))))
   refine a2l (e := 9) (c := C5) (xs := [g.d9]) I (b7d _) rfl rfl a6z a6A (nb rfl) fun ar au av af t aw => ?_
   obtain ⟨ag, h⟩ := h
   refine b9I (s := a7q) (xs := S3) (t.bring 2) b0C (af.srcO ((t.bring 2).bring 1)) ag fun ah ai ax aj ak ay => ?_
   exact hx3 _ _ (hj3 (S3 ++ [g.d9]) ah ai H _ aj ((ak.bring 1).drop.bring 1) h)
  ·exact hx3 _ _ (hj3 S3 a7q Fs3l2 H _ b0C ((I.bring 1).bring 1) h)
 ·exact hx1 _ _ (hj1 S3 a7q Fs3l2 H _ b0C ((I.bring 1).bring 1) h)
def P2 (a7p : (List i8)) (b5H : Int) (a : o3) (H : Hp) (n2 : ((List i8) × Int) → Hp → Prop) (K : Sl → Hp → Prop) : Prop :=
 n2 (a7p, (IntKind.wrap .i64 (b5H + 1))) H
def a0C (a8Y : (List i8)) (b : o3) (H : Hp) (K : Sl → Hp → Prop) : Prop :=
 ∀ (a3u : Sl) (a : Hp), Hle H a → SlH a 2 o7 a3u a8Y → a3u.n ≤ a3u.c →
 K a3u a
def a0D (a : o3) (S3 : (List i8)) (F7 : Int) (H : Hp) (n2 : ((List i8) × Int) → Hp → Prop) (K : Sl → Hp → Prop) : Prop :=
 (F7 < (a.D9.n : Int) →
 (0 : Int) ≤ F7 ∧ (F7 : Int) < a.D9.n ∧ ∃ b : i8, EltH H a.D9 F7 2 (o7 b) ∧
 (0 < b.A4 →
 (S3.length + ([b] : List i8).length) * 25 ≤ 140737488355328 ∧
 P2 (S3 ++ [b]) F7 a H n2 K) ∧
 (¬ (0 < b.A4) →
 P2 S3 F7 a H n2 K)) ∧
 (¬ (F7 < (a.D9.n : Int)) →
 a0C S3 a H K)
def a3R (x0 : o3) (H : Hp) (K : Sl → Hp → Prop) : Prop :=
 TL (([], 0) : (List i8) × Int) H fun (s : (List i8) × Int) H n2 => a0D x0 s.1 s.2 H n2 K
theorem b0d (x0) {H K} (h : a3R x0 H K) : a3H x0 H K := by
 refine Ct.of fun w0 w ps0 H0 R E I hR => d3D ?_
 unfold a3R at h
 unfold F37
 refine F0 I (cs := (q7 x0)) rfl fun f al u am => ?_
 have hj1 : ∀ (a8Y : (List i8)) (a3u : Sl) (Fs3j1 : Frag) H w (_ : RowL 71 2 o7 a3u a8Y Fs3j1) (_ : Inv w0 ps0 H0 H [bx f 25 (q7 x0), Fs3j1] w) (_ : a0C a8Y x0 H K), c1k (vs a3u) w R E := by
  intro a8Y a3u Fs3j1 H w c4b I h
  unfold c1k
  intro _
  unfold a0C at h
  obtain ⟨o, y, z, aa, ab⟩ := Inv.freezeC (I.bring 1) c4b (by decide)
  replace h := h a3u o z aa ab
  exact hR _ o _ _ y.drop ⟨a3u, rfl, rfl, h⟩
 refine r5 fun j1 hx1 => ?_
 obtain ⟨j, d, ac, ad⟩ := h
 refine y7 (J := fun n l w => ∃ (s : (List i8) × Int) (H : Hp) (a7q : Sl) (Fs3l2 : Frag) , n = d s ∧ l = (match s with | (S3, F7) => [(vs a7q), (vi F7)]) ∧ (match s with | (S3, F7) => RowL 71 2 o7 a7q S3 Fs3l2) ∧ (match s with | (S3, F7) => Inv w0 ps0 H0 H [bx f 25 (q7 x0), Fs3l2] w) ∧ j s H) ⟨_, ([], 0), H, (Sl.mk none 0 0), [], rfl, rfl, (RowL.nil a9W a9X), (u.nil.bring 1), ac⟩ ?_
 rintro an ao w next2 ⟨⟨S3, F7⟩, H, a7q, Fs3l2, rfl, m, b0C, I, ae⟩ hn2
 dsimp only at m I b0C
 simp only [List.map_cons, List.map_nil, List.cons.injEq, and_true] at m
 obtain ⟨e3, e4⟩ := m
 simp only [e3, e4]
 obtain ⟨n2, hm2, h⟩ : ∃ n2 : ((List i8) × Int) → Hp → Prop, (∀ s' H', n2 s' H' → j s' H' ∧ d s' < d (S3, F7)) ∧ a0D x0 S3 F7 H n2 K := ⟨_, fun _ _ h => h, ad (S3, F7) H (fun s' H' => j s' H' ∧ d s' < d (S3, F7)) ae (fun _ _ a b => ⟨a, b⟩)⟩
 unfold c5O
 unfold a0D at h
 refine a8 O1 (b6 (l1 Tryz.isAgg22 I rfl) (a8 (a3w _ _ _) (a8 pLs ?_)))
 refine f6 h (fun _ h => ?_) (fun _ h => ?_)
 ·have hj3 : ∀ (a7p : (List i8)) (b0D : Sl) (Fs3j3 : Frag) H w (_ : RowL 71 2 o7 b0D a7p Fs3j3) (_ : Inv w0 ps0 H0 H [bx f 25 (q7 x0), Fs3j3] w) (_ : P2 a7p F7 x0 H n2 K), c1l (Value.pointer (some ⟨f, 0, none⟩)) (vs b0D) (vi F7) w next2 R E := by
   intro a7p b0D Fs3j3 H w c4c I h
   unfold c1l
   intro _
   unfold P2 at h
   refine a8 pAd ?_
   exact hn2 _ _ _ (hm2 _ _ h).2 ⟨(a7p, (IntKind.wrap .i64 (F7 + 1))), H, b0D, Fs3j3, rfl, rfl, c4c, ((I.bring 1).bring 1), (hm2 _ _ h).1⟩
  refine r5 fun j3 hx3 => ?_
  refine a8 O1 (b6 (l1 Tryz.isAgg22 I rfl) ?_)
  obtain ⟨p, q, g, i, h⟩ := h
  obtain ⟨ap, aq, r, i⟩ := i
  refine a8 (a1x r _ _ _ _ p q) (a8 V9 (b6 (ld1 (v := (vi g.A4)) Tryz.isAgg3 ((I.atH i).sub (k := 1) (n := 1) (nb rfl))) (a8 pGt ?_)))
  refine f6 h (fun _ h => ?_) (fun _ h => ?_)
  ·refine a8 O1 (b6 (l1 Tryz.isAgg22 I rfl) (a8 (a1x r _ _ _ _ p q) (b6 (ldA (vs := (o7 g)) Tryz.isAgg71 Tryz.sizeOf71 rfl (I.atH i)) ?_)))
   refine a2l (e := 71) (c := o7) (xs := [g]) I (c2f _ _) rfl rfl a9W a9X (nb rfl) fun ar au av af t aw => ?_
   obtain ⟨ag, h⟩ := h
   refine d0V (s := a7q) (xs := S3) (t.bring 2) b0C (af.srcO ((t.bring 2).bring 1)) ag fun ah ai ax aj ak ay => ?_
   exact hx3 _ _ (hj3 (S3 ++ [g]) ah ai H _ aj ((ak.bring 1).drop.bring 1) h)
  ·exact hx3 _ _ (hj3 S3 a7q Fs3l2 H _ b0C ((I.bring 1).bring 1) h)
 ·exact hx1 _ _ (hj1 S3 a7q Fs3l2 H _ b0C ((I.bring 1).bring 1) h)
def a1q (c7P : Sl) (b6M : Int) (d : m2) (Y4 : Int) (O7 : (List i7)) (H : Hp) (n2 : (Int × (List i7)) → Hp → Prop) (K : o9 → (List i7) → Hp → Prop) : Prop :=
 (Y4 < b6M →
 (0 : Int) ≤ Y4 ∧ (Y4 : Int) < c7P.n ∧ ∃ a : m2, EltH H c7P Y4 4 (f4 a) ∧
 a0l (o9.mk (Sl.mk none 0 0)) O7 a H (fun e b c =>
 n2 ((IntKind.wrap .i64 (Y4 + 1)), b) c)) ∧
 (¬ (Y4 < b6M) →
 K (o9.mk (Sl.mk none 0 0)) O7 H)
def N4 (a3p : (List i7)) (a : m2) (H : Hp) (K : o9 → (List i7) → Hp → Prop) : Prop :=
 TL ((0, a3p) : Int × (List i7)) H fun (s : Int × (List i7)) H n2 => a1q a.z8 (a.z8.n : Int) a s.1 s.2 H n2 K
def a4j (x0 : o9) (a : (List i7)) (x1 : m2) (H : Hp) (K : o9 → (List i7) → Hp → Prop) : Prop :=
 (x1.b7 = 2 →
 (a.length + ([(i7.mk x1.d9 1)] : List i7).length) * 25 ≤ 140737488355328 ∧
 N4 (a ++ [(i7.mk x1.d9 1)]) x1 H K) ∧
 (¬ (x1.b7 = 2) →
 (x1.b7 = 4 →
 (a.length + ([(i7.mk x1.d9 2)] : List i7).length) * 25 ≤ 140737488355328 ∧
 N4 (a ++ [(i7.mk x1.d9 2)]) x1 H K) ∧
 (¬ (x1.b7 = 4) →
 N4 a x1 H K))
theorem b0E (x0 d x1) {H K} (h : a4j x0 d x1 H K) : a0l x0 d x1 H K := by
 intro g0 k ab m
 refine Ct.of fun w0 w ps0 H0 R E I hR => d0w ?_
 unfold a4j at h
 unfold d3J
 refine F0 I (cs := (f4 x1)) rfl fun o bf g bg => ?_
 have hj1 : ∀ (a3p : (List i7)) (a6r : Sl) (a6s : Frag) H w (_ : RowL 127 2 B0 a6r a3p a6s) (_ : Inv w0 ps0 H0 H [bx g0 125 [(vs a6r)], bx o 53 (f4 x1), a6s] w) (_ : N4 a3p x1 H K), b8o (Value.pointer (some ⟨g0, 0, none⟩)) (Value.pointer (some ⟨o, 0, none⟩)) w R E := by
  intro a3p a6r a6s H w b5X I h
  unfold b8o
  intro _
  unfold N4 at h
  refine a8 P5 (b6 (l1 Tryz.isAgg51 (I.bring 1) rfl) (a8 (P9 _ _ _) ?_))
  obtain ⟨p, f, ac, ad⟩ := h
  refine y7 (J := fun n l w => ∃ (s : Int × (List i7)) (H : Hp) (a4I : Sl) (a4J : Frag) , n = f s ∧ l = (match s with | (Y4, O7) => [(vi Y4)]) ∧ (match s with | (Y4, O7) => RowL 127 2 B0 a4I O7 a4J) ∧ (match s with | (Y4, O7) => Inv w0 ps0 H0 H [bx g0 125 [(vs a4I)], bx o 53 (f4 x1), a4J] w) ∧ p s H) ⟨_, (0, a3p), H, a6r, a6s, rfl, rfl, b5X, (((I.bring 2).bring 2).bring 2), ac⟩ ?_
  rintro bh bi w next2 ⟨⟨Y4, O7⟩, H, a4I, a4J, rfl, q, a8p, I, ae⟩ hn2
  dsimp only at q I a8p
  simp only [List.map_cons, List.map_nil, List.cons.injEq, and_true] at q
  have e39 := q
  simp only [e39]
  obtain ⟨n2, hm2, h⟩ : ∃ n2 : (Int × (List i7)) → Hp → Prop, (∀ s' H', n2 s' H' → p s' H' ∧ f s' < f (Y4, O7)) ∧ a1q x1.z8 (x1.z8.n : Int) x1 Y4 O7 H n2 K := ⟨_, fun _ _ h => h, ad (Y4, O7) H (fun s' H' => p s' H' ∧ f s' < f (Y4, O7)) ae (fun _ _ a b => ⟨a, b⟩)⟩
  unfold c2T
  unfold a1q at h
  refine a8 pLs ?_
  refine f6 h (fun _ h => ?_) (fun _ h => ?_)
  ·obtain ⟨af, ag, r, t, h⟩ := h
   obtain ⟨bj, bk, ah, t⟩ := t
   refine a8 (K9 ah _ _ _ _ af ag) (b6 (ldA (vs := (f4 r)) Tryz.isAgg53 Tryz.sizeOf53 rfl (I.atH t)) ?_)
   refine B9 I Tryz.zeroValue53 (cs := [(vi 0), (vi 0), (eS), (nS)]) rfl fun bl bm ai bn => ?_
   refine o4 ai Tryz.sizeOf53 (vs := (f4 r)) (cs' := (f4 r)) rfl rfl (nb rfl) rfl rfl fun bo y bp => ?_
   refine b6 (lW Tryz.isAgg53 Tryz.sizeOf53 rfl y) ?_
   refine i6 Tryz.call102 (h g0 a4I a4J a8p) ((y.bring 3).bring 2) ?_
   rintro _ aj _ bq ak _ _ ⟨br, al, am, an, rfl, rfl, ao, h⟩
   refine a8 pAd ?_
   exact hn2 _ _ _ (hm2 _ _ h).2 ⟨((IntKind.wrap .i64 (Y4 + 1)), al), aj, am, an, rfl, rfl, ao, ((((ak.bring 2).drop.bring 1).bring 2).bring 2), (hm2 _ _ h).1⟩
  ·exact hR _ H _ _ (((I.bring 1).drop.bring 1).bring 1) ⟨(o9.mk (Sl.mk none 0 0)), O7, a4I, a4J, rfl, rfl, a8p, h⟩
 refine r5 fun j1 hx1 => ?_
 refine a8 K8 (b6 (l1 Tryz.isAgg3 g rfl) (a8 pEq ?_))
 refine f6 h (fun _ h => ?_) (fun _ h => ?_)
 ·refine U6 g fun bs i => ?_
  refine j8 (m3 _) ?_
  refine j8 a3r ?_
  refine j8 a3q ?_
  refine u7 (l1 Tryz.isAgg123 (i.bring 1) rfl) ?_
  refine u7 (l1 Tryz.isAgg9 i rfl) ?_
  refine j8 (a7c _ _) ?_
  refine a2l (e := 127) (c := B0) (xs := [(i7.mk x1.d9 1)]) i (b3n _ _) rfl rfl a6u a6v (nb rfl) fun bt bu bv ap z aq => ?_
  refine ⟨(aq _ (i.bring 1).lt1), ?_⟩
  obtain ⟨ar, h⟩ := h
  refine b4H (s := k) (xs := d) (z.bring 3) m (ap.srcO ((z.bring 3).bring 1)) ar fun u au bw av aw bz => ?_
  refine j8 (m3 _) ?_
  refine j8 a3r ?_
  refine o4 ((aw.bring 1).drop.bring 2) Tryz.sizeOf123 (vs := [(vs u)]) (cs' := [(vs u)]) rfl rfl (nb rfl) rfl rfl fun ca ax cb => ?_
  exact hx1 _ _ (hj1 (d ++ [(i7.mk x1.d9 1)]) u au H _ av (((ax.bring 1).bring 2).bring 2) h)
 ·refine a8 pEq ?_
  refine f6 h (fun _ h => ?_) (fun _ h => ?_)
  ·refine U6 g fun cc j => ?_
   refine j8 (m3 _) ?_
   refine j8 a3r ?_
   refine j8 a3q ?_
   refine u7 (l1 Tryz.isAgg123 (j.bring 1) rfl) ?_
   refine u7 (l1 Tryz.isAgg9 j rfl) ?_
   refine j8 (a7c _ _) ?_
   refine a2l (e := 127) (c := B0) (xs := [(i7.mk x1.d9 2)]) j (b3n _ _) rfl rfl a6u a6v (nb rfl) fun cd ce cf ay aa az => ?_
   refine ⟨(az _ (j.bring 1).lt1), ?_⟩
   obtain ⟨ba, h⟩ := h
   refine b4H (s := k) (xs := d) (aa.bring 3) m (ay.srcO ((aa.bring 3).bring 1)) ba fun v bb cg bc bd ch => ?_
   refine j8 (m3 _) ?_
   refine j8 a3r ?_
   refine o4 ((bd.bring 1).drop.bring 2) Tryz.sizeOf123 (vs := [(vs v)]) (cs' := [(vs v)]) rfl rfl (nb rfl) rfl rfl fun ci be cj => ?_
   exact hx1 _ _ (hj1 (d ++ [(i7.mk x1.d9 2)]) v bb H _ bc (((be.bring 1).bring 2).bring 2) h)
  ·exact hx1 _ _ (hj1 d k ab H _ m (((g.bring 2).bring 1).bring 2) h)
def a1r (c7Q : Sl) (c7R : Int) (d : o0) (a5J : Int) (O7 : (List i7)) (H : Hp) (n2 : (Int × (List i7)) → Hp → Prop) (K : o9 → (List i7) → Hp → Prop) : Prop :=
 (a5J < c7R →
 (0 : Int) ≤ a5J ∧ (a5J : Int) < c7Q.n ∧ ∃ a : o0, EltH H c7Q a5J 4 (h9 a) ∧
 a2h (o9.mk (Sl.mk none 0 0)) O7 a H (fun e b c =>
 n2 ((IntKind.wrap .i64 (a5J + 1)), b) c)) ∧
 (¬ (a5J < c7R) →
 K (o9.mk (Sl.mk none 0 0)) O7 H)
def a1s (a : o0) (a3p : (List i7)) (H : Hp) (K : o9 → (List i7) → Hp → Prop) : Prop :=
 TL ((0, a3p) : Int × (List i7)) H fun (s : Int × (List i7)) H n2 => a1r a.v8 (a.v8.n : Int) a s.1 s.2 H n2 K
def a1t (b3F : Sl) (a0B : Int) (b : o0) (J9 : Int) (a3S : (List i7)) (H : Hp) (n3 : (Int × (List i7)) → Hp → Prop) (K : o9 → (List i7) → Hp → Prop) : Prop :=
 (J9 < a0B →
 (0 : Int) ≤ J9 ∧ (J9 : Int) < b3F.n ∧ ∃ a : m2, EltH H b3F J9 4 (f4 a) ∧
 a0l (o9.mk (Sl.mk none 0 0)) a3S a H (fun e c d =>
 n3 ((IntKind.wrap .i64 (J9 + 1)), c) d)) ∧
 (¬ (J9 < a0B) →
 a1s b a3S H K)
def a4k (x0 : o9) (a : (List i7)) (x1 : o0) (H : Hp) (K : o9 → (List i7) → Hp → Prop) : Prop :=
 TL ((0, a) : Int × (List i7)) H fun (s : Int × (List i7)) H n3 => a1t x1.m6 (x1.m6.n : Int) x1 s.1 s.2 H n3 K
theorem b0F (x0 f x1) {H K} (h : a4k x0 f x1 H K) : a2h x0 f x1 H K := by
 intro g0 v y z
 refine Ct.of fun w0 w ps0 H0 R E I hR => d0v ?_
 unfold a4k at h
 unfold d3I
 refine F0 I (cs := (h9 x1)) rfl fun e bc r bd => ?_
 have hj1 : ∀ (a3p : (List i7)) (a6r : Sl) (a6s : Frag) H w (_ : RowL 127 2 B0 a6r a3p a6s) (_ : Inv w0 ps0 H0 H [bx e 59 (h9 x1), bx g0 125 [(vs a6r)], a6s] w) (_ : a1s x1 a3p H K), b8n (Value.pointer (some ⟨g0, 0, none⟩)) (Value.pointer (some ⟨e, 0, none⟩)) w R E := by
  intro a3p a6r a6s H w b5X I h
  unfold b8n
  intro _
  unfold a1s at h
  refine a8 O3 (b6 (l1 Tryz.isAgg57 I rfl) (a8 (a1Z _ _ _) ?_))
  obtain ⟨g, c, aa, ab⟩ := h
  refine y7 (J := fun n l w => ∃ (s : Int × (List i7)) (H : Hp) (a4I : Sl) (a4J : Frag) , n = c s ∧ l = (match s with | (a5J, O7) => [(vi a5J)]) ∧ (match s with | (a5J, O7) => RowL 127 2 B0 a4I O7 a4J) ∧ (match s with | (a5J, O7) => Inv w0 ps0 H0 H [bx e 59 (h9 x1), bx g0 125 [(vs a4I)], a4J] w) ∧ g s H) ⟨_, (0, a3p), H, a6r, a6s, rfl, rfl, b5X, (((I.bring 2).bring 2).bring 2), aa⟩ ?_
  rintro be bf w next2 ⟨⟨a5J, O7⟩, H, a4I, a4J, rfl, i, a8p, I, ac⟩ hn2
  dsimp only at i I a8p
  simp only [List.map_cons, List.map_nil, List.cons.injEq, and_true] at i
  have e22 := i
  simp only [e22]
  obtain ⟨n2, hm2, h⟩ : ∃ n2 : (Int × (List i7)) → Hp → Prop, (∀ s' H', n2 s' H' → g s' H' ∧ c s' < c (a5J, O7)) ∧ a1r x1.v8 (x1.v8.n : Int) x1 a5J O7 H n2 K := ⟨_, fun _ _ h => h, ab (a5J, O7) H (fun s' H' => g s' H' ∧ c s' < c (a5J, O7)) ac (fun _ _ a b => ⟨a, b⟩)⟩
  unfold c2R
  unfold a1r at h
  refine a8 pLs ?_
  refine f6 h (fun _ h => ?_) (fun _ h => ?_)
  ·obtain ⟨ad, ae, j, k, h⟩ := h
   obtain ⟨bg, bh, af, k⟩ := k
   refine a8 (P6 af _ _ _ _ ad ae) (b6 (ldA (vs := (h9 j)) Tryz.isAgg59 Tryz.sizeOf59 rfl (I.atH k)) ?_)
   refine B9 I Tryz.zeroValue59 (cs := [(vi 0), (vi 0), (nS), (nS)]) rfl fun bi bj ag bk => ?_
   refine o4 ag Tryz.sizeOf59 (vs := (h9 j)) (cs' := (h9 j)) rfl rfl (nb rfl) rfl rfl fun bl t bm => ?_
   refine b6 (lW Tryz.isAgg59 Tryz.sizeOf59 rfl t) ?_
   refine i6 Tryz.call101 (h g0 a4I a4J a8p) ((t.bring 3).bring 3) ?_
   rintro _ ah _ bn ai _ _ ⟨bo, aj, ak, al, rfl, rfl, am, h⟩
   refine a8 pAd ?_
   exact hn2 _ _ _ (hm2 _ _ h).2 ⟨((IntKind.wrap .i64 (a5J + 1)), aj), ah, ak, al, rfl, rfl, am, ((((ai.bring 2).drop.bring 1).bring 1).bring 2), (hm2 _ _ h).1⟩
  ·exact hR _ H _ _ ((I.drop.bring 1).bring 1) ⟨(o9.mk (Sl.mk none 0 0)), O7, a4I, a4J, rfl, rfl, a8p, h⟩
 refine r5 fun j1 hx1 => ?_
 refine a8 a0k (b6 (l1 Tryz.isAgg51 r rfl) (a8 (P9 _ _ _) ?_))
 obtain ⟨m, d, an, ao⟩ := h
 refine y7 (J := fun n l w => ∃ (s : Int × (List i7)) (H : Hp) (b1u : Sl) (b1v : Frag) , n = d s ∧ l = (match s with | (J9, a3S) => [(vi J9)]) ∧ (match s with | (J9, a3S) => RowL 127 2 B0 b1u a3S b1v) ∧ (match s with | (J9, a3S) => Inv w0 ps0 H0 H [bx e 59 (h9 x1), bx g0 125 [(vs b1u)], b1v] w) ∧ m s H) ⟨_, (0, f), H, v, y, rfl, rfl, z, (((r.bring 2).bring 2).bring 2), an⟩ ?_
 rintro bp bq w next3 ⟨⟨J9, a3S⟩, H, b1u, b1v, rfl, o, b5Y, I, ap⟩ hn3
 dsimp only at o I b5Y
 simp only [List.map_cons, List.map_nil, List.cons.injEq, and_true] at o
 have e11 := o
 simp only [e11]
 obtain ⟨n3, hm3, h⟩ : ∃ n3 : (Int × (List i7)) → Hp → Prop, (∀ s' H', n3 s' H' → m s' H' ∧ d s' < d (J9, a3S)) ∧ a1t x1.m6 (x1.m6.n : Int) x1 J9 a3S H n3 K := ⟨_, fun _ _ h => h, ao (J9, a3S) H (fun s' H' => m s' H' ∧ d s' < d (J9, a3S)) ap (fun _ _ a b => ⟨a, b⟩)⟩
 unfold c2S
 unfold a1t at h
 refine a8 pLs ?_
 refine f6 h (fun _ h => ?_) (fun _ h => ?_)
 ·obtain ⟨aq, ar, p, q, h⟩ := h
  obtain ⟨br, bs, au, q⟩ := q
  refine a8 (K9 au _ _ _ _ aq ar) (b6 (ldA (vs := (f4 p)) Tryz.isAgg53 Tryz.sizeOf53 rfl (I.atH q)) ?_)
  refine B9 I Tryz.zeroValue53 (cs := [(vi 0), (vi 0), (eS), (nS)]) rfl fun bt bu av bv => ?_
  refine o4 av Tryz.sizeOf53 (vs := (f4 p)) (cs' := (f4 p)) rfl rfl (nb rfl) rfl rfl fun bw u bz => ?_
  refine b6 (lW Tryz.isAgg53 Tryz.sizeOf53 rfl u) ?_
  refine i6 Tryz.call102 (h g0 b1u b1v b5Y) ((u.bring 3).bring 3) ?_
  rintro _ aw _ ca ax _ _ ⟨cb, ay, az, ba, rfl, rfl, bb, h⟩
  refine a8 pAd ?_
  exact hn3 _ _ _ (hm3 _ _ h).2 ⟨((IntKind.wrap .i64 (J9 + 1)), ay), aw, az, ba, rfl, rfl, bb, ((((ax.bring 2).drop.bring 1).bring 1).bring 2), (hm3 _ _ h).1⟩
 ·exact hx1 _ _ (hj1 a3S b1u b1v H _ b5Y (((I.bring 2).bring 2).bring 2) h)
def a0E (a6m : Sl) (b0n : Int) (d4s : Int) (a9F : (List i7)) (H : Hp) (n1 : (Int × (List i7)) → Hp → Prop) (K : o9 → (List i7) → Hp → Prop) : Prop :=
 n1 ((IntKind.wrap .i64 (d4s + 1)), a9F) H
def a0F (c7A : Sl) (c3t : Int) (d4t : Int) (b1w : (List i7)) (a : m7) (H : Hp) (n1 : (Int × (List i7)) → Hp → Prop) (K : o9 → (List i7) → Hp → Prop) : Prop :=
 Y5 (o9.mk (Sl.mk none 0 0)) b1w a.K7 H (fun f b c =>
 Y5 (o9.mk (Sl.mk none 0 0)) b a.L0 c (fun g d e =>
 a0E c7A c3t d4t d e n1 K))
def a0G (d4u : Sl) (d4v : Int) (d4w : Int) (c7S : Sl) (c7T : Int) (b : m7) (a5K : Int) (a3T : (List i7)) (H : Hp) (n1 : (Int × (List i7)) → Hp → Prop) (n6 : (Int × (List i7)) → Hp → Prop) (K : o9 → (List i7) → Hp → Prop) : Prop :=
 (a5K < c7T →
 (0 : Int) ≤ a5K ∧ (a5K : Int) < c7S.n ∧ ∃ a : m2, EltH H c7S a5K 4 (f4 a) ∧
 a0l (o9.mk (Sl.mk none 0 0)) a3T a H (fun e c d =>
 n6 ((IntKind.wrap .i64 (a5K + 1)), c) d)) ∧
 (¬ (a5K < c7T) →
 a0F d4u d4v d4w a3T b H n1 K)
def a0H (d4x : Sl) (d4y : Int) (d4z : Int) (a9G : (List i7)) (a : m7) (H : Hp) (n1 : (Int × (List i7)) → Hp → Prop) (K : o9 → (List i7) → Hp → Prop) : Prop :=
 TL ((0, a9G) : Int × (List i7)) H fun (s : Int × (List i7)) H n6 => a0G d4x d4y d4z a.m6 (a.m6.n : Int) a s.1 s.2 H n1 n6 K
def a0I (d4A : Sl) (d4B : Int) (d4C : Int) (c7U : Sl) (c7V : Int) (b : m7) (a5L : Int) (a3U : (List i7)) (H : Hp) (n1 : (Int × (List i7)) → Hp → Prop) (n7 : (Int × (List i7)) → Hp → Prop) (K : o9 → (List i7) → Hp → Prop) : Prop :=
 (a5L < c7V →
 (0 : Int) ≤ a5L ∧ (a5L : Int) < c7U.n ∧ ∃ a : o0, EltH H c7U a5L 4 (h9 a) ∧
 a2h (o9.mk (Sl.mk none 0 0)) a3U a H (fun e c d =>
 n7 ((IntKind.wrap .i64 (a5L + 1)), c) d)) ∧
 (¬ (a5L < c7V) →
 a0H d4A d4B d4C a3U b H n1 K)
def L4 (d4D : Sl) (b2e : Int) (d4E : Int) (a9H : (List i7)) (a : m7) (H : Hp) (n1 : (Int × (List i7)) → Hp → Prop) (K : o9 → (List i7) → Hp → Prop) : Prop :=
 TL ((0, a9H) : Int × (List i7)) H fun (s : Int × (List i7)) H n7 => a0I d4D b2e d4E a.y6 (a.y6.n : Int) a s.1 s.2 H n1 n7 K
def a0J (b6N : Sl) (b6O : Int) (a0K : Int) (S7 : (List i7)) (H : Hp) (n1 : (Int × (List i7)) → Hp → Prop) (K : o9 → (List i7) → Hp → Prop) : Prop :=
 (a0K < b6O →
 (0 : Int) ≤ a0K ∧ (a0K : Int) < b6N.n ∧ ∃ a : m7, EltH H b6N a0K 6 (f8 a) ∧
 (a.b7 = 1 →
 (S7.length + ([(i7.mk a.d9 1)] : List i7).length) * 25 ≤ 140737488355328 ∧
 L4 b6N b6O a0K (S7 ++ [(i7.mk a.d9 1)]) a H n1 K) ∧
 (¬ (a.b7 = 1) →
 (a.b7 = 2 →
 (S7.length + ([(i7.mk a.d9 2)] : List i7).length) * 25 ≤ 140737488355328 ∧
 L4 b6N b6O a0K (S7 ++ [(i7.mk a.d9 2)]) a H n1 K) ∧
 (¬ (a.b7 = 2) →
 L4 b6N b6O a0K S7 a H n1 K))) ∧
 (¬ (a0K < b6O) →
 K (o9.mk (Sl.mk none 0 0)) S7 H)
def a3V (x0 : o9) (a : (List i7)) (x1 : Sl) (H : Hp) (K : o9 → (List i7) → Hp → Prop) : Prop :=
 TL ((0, a) : Int × (List i7)) H fun (s : Int × (List i7)) H n1 => a0J x1 (x1.n : Int) s.1 s.2 H n1 K
theorem b0e (x0 p x1) {H K} (h : a3V x0 p x1 H K) : Y5 x0 p x1 H K := by
 intro g0 al am an
 refine Ct.of fun w0 w ps0 H0 R E I hR => d3F ?_
 unfold a3V at h
 unfold F58
 refine a8 (a0h _ _ _) ?_
 obtain ⟨q, g, ao, ap⟩ := h
 refine y7 (J := fun n l w => ∃ (s : Int × (List i7)) (H : Hp) (a8q : Sl) (b1x : Frag) , n = g s ∧ l = (match s with | (a0K, S7) => [(vi a0K)]) ∧ (match s with | (a0K, S7) => RowL 127 2 B0 a8q S7 b1x) ∧ (match s with | (a0K, S7) => Inv w0 ps0 H0 H [bx g0 125 [(vs a8q)], b1x] w) ∧ q s H) ⟨_, (0, p), H, al, am, rfl, rfl, an, ((I.bring 1).bring 1), ao⟩ ?_
 rintro cx cy w next1 ⟨⟨a0K, S7⟩, H, a8q, b1x, rfl, r, b1y, I, aq⟩ hn1
 dsimp only at r I b1y
 simp only [List.map_cons, List.map_nil, List.cons.injEq, and_true] at r
 have e12 := r
 simp only [e12]
 obtain ⟨n1, hm1, h⟩ : ∃ n1 : (Int × (List i7)) → Hp → Prop, (∀ s' H', n1 s' H' → q s' H' ∧ g s' < g (a0K, S7)) ∧ a0J x1 (x1.n : Int) a0K S7 H n1 K := ⟨_, fun _ _ h => h, ap (a0K, S7) H (fun s' H' => q s' H' ∧ g s' < g (a0K, S7)) aq (fun _ _ a b => ⟨a, b⟩)⟩
 unfold c5T
 unfold a0J at h
 refine a8 pLs ?_
 refine f6 h (fun _ h => ?_) (fun _ h => ?_)
 ·have hj2 : ∀ (a9F : (List i7)) (b3O : Sl) (b3P : Frag) H w (_ : RowL 127 2 B0 b3O a9F b3P) (_ : Inv w0 ps0 H0 H [bx g0 125 [(vs b3O)], b3P] w) (_ : a0E x1 (x1.n : Int) a0K a9F H n1 K), c1m (Value.pointer (some ⟨g0, 0, none⟩)) (vs x1) (vi (x1.n : Int)) (vi a0K) w next1 R E := by
   intro a9F b3O b3P H w c7d I h
   unfold c1m
   intro _
   unfold a0E at h
   refine a8 pAd ?_
   exact hn1 _ _ _ (hm1 _ _ h).2 ⟨((IntKind.wrap .i64 (a0K + 1)), a9F), H, b3O, b3P, rfl, rfl, c7d, ((I.bring 1).bring 1), (hm1 _ _ h).1⟩
  refine r5 fun j2 hx2 => ?_
  obtain ⟨ar, au, d, t, h⟩ := h
  obtain ⟨cz, da, av, t⟩ := t
  refine a8 (a4s av _ _ _ _ ar au) (b6 (ldA (vs := (f8 d)) Tryz.isAgg73 Tryz.sizeOf73 rfl (I.atH t)) ?_)
  refine B9 I Tryz.zeroValue73 (cs := [(vi 0), (eS), (nS), (nS), (nS), (nS)]) rfl fun f db aw dc => ?_
  refine o4 aw Tryz.sizeOf73 (vs := (f8 d)) (cs' := (f8 d)) rfl rfl (nb rfl) rfl rfl fun dd k de => ?_
  have hj3 : ∀ (a9H : (List i7)) (b3Q : Sl) (b3R : Frag) H w (_ : RowL 127 2 B0 b3Q a9H b3R) (_ : Inv w0 ps0 H0 H [bx g0 125 [(vs b3Q)], bx f 73 (f8 d), b3R] w) (_ : L4 x1 (x1.n : Int) a0K a9H d H n1 K), c1p (Value.pointer (some ⟨g0, 0, none⟩)) (Value.pointer (some ⟨f, 0, none⟩)) (vs x1) (vi (x1.n : Int)) (vi a0K) w j2 R E := by
   intro a9H b3Q b3R H w c7e I h
   unfold c1p
   intro _
   unfold L4 at h
   have hj4 : ∀ (a9G : (List i7)) (b3S : Sl) (b3T : Frag) H w (_ : RowL 127 2 B0 b3S a9G b3T) (_ : Inv w0 ps0 H0 H [bx g0 125 [(vs b3S)], bx f 73 (f8 d), b3T] w) (_ : a0H x1 (x1.n : Int) a0K a9G d H n1 K), c1o (Value.pointer (some ⟨g0, 0, none⟩)) (Value.pointer (some ⟨f, 0, none⟩)) (vs x1) (vi (x1.n : Int)) (vi a0K) w j2 R E := by
    intro a9G b3S b3T H w c7f I h
    unfold c1o
    intro _
    unfold a0H at h
    have hj5 : ∀ (b1w : (List i7)) (b3U : Sl) (b3V : Frag) H w (_ : RowL 127 2 B0 b3U b1w b3V) (_ : Inv w0 ps0 H0 H [bx g0 125 [(vs b3U)], bx f 73 (f8 d), b3V] w) (_ : a0F x1 (x1.n : Int) a0K b1w d H n1 K), c1n (Value.pointer (some ⟨g0, 0, none⟩)) (Value.pointer (some ⟨f, 0, none⟩)) (vs x1) (vi (x1.n : Int)) (vi a0K) w j2 R E := by
     intro b1w b3U b3V H w c7g I h
     unfold c1n
     intro _
     unfold a0F at h
     refine a8 a0O (b6 (l1 Tryz.isAgg23 (I.bring 1) rfl) ?_)
     refine i6 Tryz.call58 (h g0 b3U b3V c7g) ((I.bring 2).bring 1) ?_
     rintro _ _ _ df ag _ _ ⟨dg, dh, ax, ay, rfl, rfl, az, h⟩
     refine a8 a1Q (b6 (l1 Tryz.isAgg23 (ag.bring 2) rfl) ?_)
     refine i6 Tryz.call58 (h g0 ax ay az) ((ag.bring 1).bring 1) ?_
     rintro _ ba _ di bb _ _ ⟨dj, bc, bd, be, rfl, rfl, bf, h⟩
     exact hx2 _ _ (hj2 bc bd be ba _ bf (((bb.bring 2).drop.bring 1).bring 1) h)
    refine r5 fun j5 hx5 => ?_
    refine a8 V8 (b6 (l1 Tryz.isAgg51 (I.bring 1) rfl) (a8 (P9 _ _ _) ?_))
    obtain ⟨u, i, bg, bh⟩ := h
    refine y7 (J := fun n l w => ∃ (s : Int × (List i7)) (H : Hp) (b1z : Sl) (b1A : Frag) , n = i s ∧ l = (match s with | (a5K, a3T) => [(vi a5K)]) ∧ (match s with | (a5K, a3T) => RowL 127 2 B0 b1z a3T b1A) ∧ (match s with | (a5K, a3T) => Inv w0 ps0 H0 H [bx g0 125 [(vs b1z)], bx f 73 (f8 d), b1A] w) ∧ u s H) ⟨_, (0, a9G), H, b3S, b3T, rfl, rfl, c7f, (((I.bring 2).bring 2).bring 2), bg⟩ ?_
    rintro dk dl w next6 ⟨⟨a5K, a3T⟩, H, b1z, b1A, rfl, v, b5Z, I, bi⟩ hn6
    dsimp only at v I b5Z
    simp only [List.map_cons, List.map_nil, List.cons.injEq, and_true] at v
    have e60 := v
    simp only [e60]
    obtain ⟨n6, hm6, h⟩ : ∃ n6 : (Int × (List i7)) → Hp → Prop, (∀ s' H', n6 s' H' → u s' H' ∧ i s' < i (a5K, a3T)) ∧ a0G x1 (x1.n : Int) a0K d.m6 (d.m6.n : Int) d a5K a3T H n1 n6 K := ⟨_, fun _ _ h => h, bh (a5K, a3T) H (fun s' H' => u s' H' ∧ i s' < i (a5K, a3T)) bi (fun _ _ a b => ⟨a, b⟩)⟩
    unfold c5R
    unfold a0G at h
    refine a8 pLs ?_
    refine f6 h (fun _ h => ?_) (fun _ h => ?_)
    ·obtain ⟨bj, bk, y, z, h⟩ := h
     obtain ⟨dm, dn, bl, z⟩ := z
     refine a8 (K9 bl _ _ _ _ bj bk) (b6 (ldA (vs := (f4 y)) Tryz.isAgg53 Tryz.sizeOf53 rfl (I.atH z)) ?_)
     refine B9 I Tryz.zeroValue53 (cs := [(vi 0), (vi 0), (eS), (nS)]) rfl fun dp dq bm dr => ?_
     refine o4 bm Tryz.sizeOf53 (vs := (f4 y)) (cs' := (f4 y)) rfl rfl (nb rfl) rfl rfl fun ds ah dt => ?_
     refine b6 (lW Tryz.isAgg53 Tryz.sizeOf53 rfl ah) ?_
     refine i6 Tryz.call102 (h g0 b1z b1A b5Z) ((ah.bring 3).bring 2) ?_
     rintro _ bn _ du bo _ _ ⟨dv, bp, bq, br, rfl, rfl, bs, h⟩
     refine a8 pAd ?_
     exact hn6 _ _ _ (hm6 _ _ h).2 ⟨((IntKind.wrap .i64 (a5K + 1)), bp), bn, bq, br, rfl, rfl, bs, ((((bo.bring 2).drop.bring 1).bring 2).bring 2), (hm6 _ _ h).1⟩
    ·exact hx5 _ _ (hj5 a3T b1z b1A H _ b5Z (((I.bring 2).bring 2).bring 2) h)
   refine r5 fun j4 hx4 => ?_
   refine a8 V7 (b6 (l1 Tryz.isAgg57 (I.bring 1) rfl) (a8 (a1Z _ _ _) ?_))
   obtain ⟨aa, j, bt, bu⟩ := h
   refine y7 (J := fun n l w => ∃ (s : Int × (List i7)) (H : Hp) (b1B : Sl) (b1C : Frag) , n = j s ∧ l = (match s with | (a5L, a3U) => [(vi a5L)]) ∧ (match s with | (a5L, a3U) => RowL 127 2 B0 b1B a3U b1C) ∧ (match s with | (a5L, a3U) => Inv w0 ps0 H0 H [bx g0 125 [(vs b1B)], bx f 73 (f8 d), b1C] w) ∧ aa s H) ⟨_, (0, a9H), H, b3Q, b3R, rfl, rfl, c7e, (((I.bring 2).bring 2).bring 2), bt⟩ ?_
   rintro dw dx w next7 ⟨⟨a5L, a3U⟩, H, b1B, b1C, rfl, ab, b6a, I, bv⟩ hn7
   dsimp only at ab I b6a
   simp only [List.map_cons, List.map_nil, List.cons.injEq, and_true] at ab
   have e49 := ab
   simp only [e49]
   obtain ⟨n7, hm7, h⟩ : ∃ n7 : (Int × (List i7)) → Hp → Prop, (∀ s' H', n7 s' H' → aa s' H' ∧ j s' < j (a5L, a3U)) ∧ a0I x1 (x1.n : Int) a0K d.y6 (d.y6.n : Int) d a5L a3U H n1 n7 K := ⟨_, fun _ _ h => h, bu (a5L, a3U) H (fun s' H' => aa s' H' ∧ j s' < j (a5L, a3U)) bv (fun _ _ a b => ⟨a, b⟩)⟩
   unfold c5S
   unfold a0I at h
   refine a8 pLs ?_
   refine f6 h (fun _ h => ?_) (fun _ h => ?_)
   ·obtain ⟨bw, bz, ac, ad, h⟩ := h
    obtain ⟨dy, dz, ca, ad⟩ := ad
    refine a8 (P6 ca _ _ _ _ bw bz) (b6 (ldA (vs := (h9 ac)) Tryz.isAgg59 Tryz.sizeOf59 rfl (I.atH ad)) ?_)
    refine B9 I Tryz.zeroValue59 (cs := [(vi 0), (vi 0), (nS), (nS)]) rfl fun ea eb cb ec => ?_
    refine o4 cb Tryz.sizeOf59 (vs := (h9 ac)) (cs' := (h9 ac)) rfl rfl (nb rfl) rfl rfl fun ed ai ee => ?_
    refine b6 (lW Tryz.isAgg59 Tryz.sizeOf59 rfl ai) ?_
    refine i6 Tryz.call101 (h g0 b1B b1C b6a) ((ai.bring 3).bring 2) ?_
    rintro _ cc _ ef cd _ _ ⟨eg, ce, cf, cg, rfl, rfl, ch, h⟩
    refine a8 pAd ?_
    exact hn7 _ _ _ (hm7 _ _ h).2 ⟨((IntKind.wrap .i64 (a5L + 1)), ce), cc, cf, cg, rfl, rfl, ch, ((((cd.bring 2).drop.bring 1).bring 2).bring 2), (hm7 _ _ h).1⟩
   ·exact hx4 _ _ (hj4 a3U b1B b1C H _ b6a (((I.bring 2).bring 2).bring 2) h)
  refine r5 fun j3 hx3 => ?_
  refine a8 V6 (b6 (l1 Tryz.isAgg3 k rfl) (a8 pEq ?_))
  refine f6 h (fun _ h => ?_) (fun _ h => ?_)
  ·refine U6 k fun eh m => ?_
   refine j8 (m3 _) ?_
   refine j8 a3r ?_
   refine j8 a1P ?_
   refine u7 (l1 Tryz.isAgg123 (m.bring 1) rfl) ?_
   refine u7 (l1 Tryz.isAgg9 m rfl) ?_
   refine j8 (a7c _ _) ?_
   refine a2l (e := 127) (c := B0) (xs := [(i7.mk d.d9 1)]) m (b3n _ _) rfl rfl a6u a6v (nb rfl) fun ei ej ek ci aj cj => ?_
   refine ⟨(cj _ (m.bring 1).lt1), ?_⟩
   obtain ⟨ck, h⟩ := h
   refine b4H (s := a8q) (xs := S7) (aj.bring 3) b1y (ci.srcO ((aj.bring 3).bring 1)) ck fun ae cl el cm cn em => ?_
   refine j8 (m3 _) ?_
   refine j8 a3r ?_
   refine o4 ((cn.bring 1).drop.bring 2) Tryz.sizeOf123 (vs := [(vs ae)]) (cs' := [(vs ae)]) rfl rfl (nb rfl) rfl rfl fun en co eo => ?_
   exact hx3 _ _ (hj3 (S7 ++ [(i7.mk d.d9 1)]) ae cl H _ cm (((co.bring 1).bring 2).bring 2) h)
  ·refine a8 pEq ?_
   refine f6 h (fun _ h => ?_) (fun _ h => ?_)
   ·refine U6 k fun ep o => ?_
    refine j8 (m3 _) ?_
    refine j8 a3r ?_
    refine j8 a1P ?_
    refine u7 (l1 Tryz.isAgg123 (o.bring 1) rfl) ?_
    refine u7 (l1 Tryz.isAgg9 o rfl) ?_
    refine j8 (a7c _ _) ?_
    refine a2l (e := 127) (c := B0) (xs := [(i7.mk d.d9 2)]) o (b3n _ _) rfl rfl a6u a6v (nb rfl) fun eq er es cp ak cq => ?_
    refine ⟨(cq _ (o.bring 1).lt1), ?_⟩
    obtain ⟨cr, h⟩ := h
    refine b4H (s := a8q) (xs := S7) (ak.bring 3) b1y (cp.srcO ((ak.bring 3).bring 1)) cr fun af ct et cu cv eu => ?_
    refine j8 (m3 _) ?_
    refine j8 a3r ?_
    refine o4 ((cv.bring 1).drop.bring 2) Tryz.sizeOf123 (vs := [(vs af)]) (cs' := [(vs af)]) rfl rfl (nb rfl) rfl rfl fun ev cw ew => ?_
    exact hx3 _ _ (hj3 (S7 ++ [(i7.mk d.d9 2)]) af ct H _ cu (((cw.bring 1).bring 2).bring 2) h)
   ·exact hx3 _ _ (hj3 S7 a8q b1x H _ b1y (((k.bring 2).bring 1).bring 2) h)
 ·exact hR _ H _ _ ((I.bring 1).bring 1) ⟨(o9.mk (Sl.mk none 0 0)), S7, a8q, b1x, rfl, rfl, b1y, h⟩
def a1N (b3H : Int) (a6U : ByteArray) (a : (List i7)) (b : o3) (H : Hp) (K : ByteArray → Int → Hp → Prop) : Prop :=
 K a6U b3H H
def a3v (A8 : (Option Nat)) (b6P : (List i7)) (b6M : Int) (c : o3) (a1W : Int) (a3d : ByteArray) (Y4 : Int) (H : Hp) (n2 : (Int × ByteArray × Int) → Hp → Prop) (K : ByteArray → Int → Hp → Prop) : Prop :=
 (Y4 < b6M →
 (0 : Int) ≤ Y4 ∧ ∃ a : i7, (b6P)[(Y4 : Int).toNat]? = some a ∧
 ∃ b : List (ByteArray × Int), MapH H (fun s : ByteArray => Value.string s) (fun n : Int => Value.int .i64 n) A8 b ∧
 (((lk a.fname b).getD 0) = a.fas →
 n2 (a1W, a3d, (IntKind.wrap .i64 (Y4 + 1))) H) ∧
 (¬ (((lk a.fname b).getD 0) = a.fas) →
 (((lk a.fname b).getD 0) = 0 →
 a1N 63 a.fname b6P c H K) ∧
 (¬ (((lk a.fname b).getD 0) = 0) →
 a1N 64 a.fname b6P c H K))) ∧
 (¬ (Y4 < b6M) →
 a1N a1W a3d b6P c H K)
def a6K (x0 : o3) (H : Hp) (K : ByteArray → Int → Hp → Prop) : Prop :=
 a6F x0 H (fun b c =>
 (¬ (b = 0) →
 K ⟨#[]⟩ b c) ∧
 (b = 0 →
 a7Q x0.D9 c (fun f g a d =>
 (¬ (a = 0) →
 K g a d) ∧
 (a = 0 →
 Y5 (o9.mk (Sl.mk none 0 0)) [] x0.a2f d (fun j e i =>
 TL ((a, ⟨#[]⟩, 0) : Int × ByteArray × Int) i fun (s : Int × ByteArray × Int) H n2 => a3v f e (e.length : Int) x0 s.1 s.2.1 s.2.2 H n2 K)))))
theorem b4d (x0) {H K} (h : a6K x0 H K) : a9o x0 H K := by
 refine Ct.of fun w0 w ps0 H0 R E I hR => d3A ?_
 unfold a6K at h
 unfold F33
 refine F0 I (cs := (q7 x0)) rfl fun r ap t aq => ?_
 refine b6 (lW Tryz.isAgg25 Tryz.sizeOf25 rfl t) ?_
 refine i6 Tryz.call24 h t ?_
 rintro _ af _ ar i _ _ ⟨ag, rfl, rfl, h⟩
 refine a8 pNe ?_
 refine a1v h (fun _ h => ?_) (fun _ h => ?_)
 ·exact hR _ af _ _ i.drop ⟨⟨#[]⟩, ag, rfl, rfl, h⟩
 ·refine a8 O1 (b6 (l1 Tryz.isAgg22 i rfl) ?_)
  refine i6 Tryz.call57 h i ?_
  rintro _ ah _ au u _ _ ⟨ai, v, j, rfl, rfl, h⟩
  refine a8 (m8 _ _ _ rfl) (a8 (m8 _ _ (Value.string v) rfl) (a8 (m8 _ _ (vi j) rfl) (a8 pNe ?_)))
  refine a1v h (fun _ h => ?_) (fun _ h => ?_)
  ·exact hR _ ah _ _ u.drop ⟨v, j, rfl, rfl, h⟩
  ·refine a8 (c3n ) ?_
   refine F0 u (cs := [(nS)]) rfl fun k av y aw => ?_
   refine a8 a3X (b6 (l1 Tryz.isAgg23 (y.bring 1) rfl) ?_)
   refine i6 Tryz.call58 (h k (Sl.mk none 0 0) ([]) (RowL.nil (e := 127) a6u a6v)) (y.nil.bring 1) ?_
   rintro _ aj _ ax aa _ _ ⟨ay, m, ab, ac, rfl, rfl, g, h⟩
   have hj1 : ∀ (b3H : Int) (a6U : ByteArray) H w (_ : Inv w0 ps0 H0 H [bx k 125 [(vs ab)], bx r 25 (q7 x0), ac] w) (_ : a1N b3H a6U m x0 H K), c1e (vi b3H) (Value.string a6U) w R E := by
    intro b3H a6U H w I h
    unfold c1e
    intro _
    unfold a1N at h
    exact hR _ H _ _ I.drop.drop.drop ⟨a6U, b3H, rfl, rfl, h⟩
   refine r5 fun j1 hx1 => ?_
   refine a8 (m3 _) (a8 a3r (b6 (l1 Tryz.isAgg123 aa rfl) (a8 (a6Y Tryz.underlying123 g) ?_)))
   obtain ⟨o, f, ak, al⟩ := h
   refine y7 (J := fun n l w => ∃ (s : Int × ByteArray × Int) (H : Hp) , n = f s ∧ l = (match s with | (a1W, a3d, Y4) => [(vi a1W), (Value.string a3d), (vi Y4)]) ∧ (match s with | (a1W, a3d, Y4) => Inv w0 ps0 H0 H [bx k 125 [(vs ab)], bx r 25 (q7 x0), ac] w) ∧ o s H) ⟨_, (j, ⟨#[]⟩, 0), aj, rfl, rfl, (((aa.bring 1).bring 2).bring 2), ak⟩ ?_
   rintro az ba w next2 ⟨⟨a1W, a3d, Y4⟩, H, rfl, p, I, am⟩ hn2
   dsimp only at p I
   simp only [List.map_cons, List.map_nil, List.cons.injEq, and_true] at p
   obtain ⟨e7, e9, e39⟩ := p
   simp only [e7, e9, e39]
   obtain ⟨n2, hm2, h⟩ : ∃ n2 : (Int × ByteArray × Int) → Hp → Prop, (∀ s' H', n2 s' H' → o s' H' ∧ f s' < f (a1W, a3d, Y4)) ∧ a3v ai m (m.length : Int) x0 a1W a3d Y4 H n2 K := ⟨_, fun _ _ h => h, al (a1W, a3d, Y4) H (fun s' H' => o s' H' ∧ f s' < f (a1W, a3d, Y4)) am (fun _ _ a b => ⟨a, b⟩)⟩
   unfold c5K
   unfold a3v at h
   refine a8 pLs ?_
   refine f6 h (fun _ h => ?_) (fun _ h => ?_)
   ·obtain ⟨ad, d, q, h⟩ := h
    obtain ⟨bb, bc, ae, bd⟩ := g.addr q
    refine a8 (c4z ae _ _ _ _ ad (g.lt ad q)) (b6 (ldA (vs := (B0 d)) Tryz.isAgg127 Tryz.sizeOf127 rfl (g.atW (I.bring 2) ae q)) ?_)
    refine B9 I Tryz.zeroValue127 (cs := [(eS), (vi 0)]) rfl fun be bf an bg => ?_
    refine o4 an Tryz.sizeOf127 (vs := (B0 d)) (cs' := (B0 d)) rfl rfl (nb rfl) rfl rfl fun bh c bi => ?_
    refine a8 b2m (b6 (l1 Tryz.isAgg9 c rfl) ?_)
    obtain ⟨bj, ao, h⟩ := h
    refine b9E (keyS Tryz.underlying9) Tryz.underlying119 (z := 0) Tryz.zeroValue3 c ao d.fname ?_
    refine a8 c1I (b6 (l1 Tryz.isAgg3 c rfl) (a8 pEq ?_))
    refine f6 h (fun _ h => ?_) (fun _ h => ?_)
    ·refine a8 pAd ?_
     exact hn2 _ _ _ (hm2 _ _ h).2 ⟨(a1W, a3d, (IntKind.wrap .i64 (Y4 + 1))), H, rfl, rfl, (((c.drop.bring 2).bring 2).bring 2), (hm2 _ _ h).1⟩
    ·refine a8 pEq ?_
     refine f6 h (fun _ h => ?_) (fun _ h => ?_)
     ·refine a8 b2m (b6 (l1 Tryz.isAgg9 c rfl) ?_)
      exact hx1 _ _ (hj1 63 d.fname H _ (((c.drop.bring 2).bring 2).bring 2) h)
     ·refine a8 b2m (b6 (l1 Tryz.isAgg9 c rfl) ?_)
      exact hx1 _ _ (hj1 64 d.fname H _ (((c.drop.bring 2).bring 2).bring 2) h)
   ·exact hx1 _ _ (hj1 a1W a3d H _ (((I.bring 2).bring 2).bring 2) h)
def a6V (x0 : i8) (H : Hp) (K : Int → Hp → Prop) : Prop :=
 (0 < x0.A4 →
 K 2 H) ∧
 (¬ (0 < x0.A4) →
 K 1 H)
theorem b4A (x0) {H K} (h : a6V x0 H K) : a9M x0 H K := by
 refine Ct.of fun w0 w ps0 H0 R E I hR => d0u ?_
 unfold a6V at h
 unfold d3H
 refine F0 I (cs := (o7 x0)) rfl fun b c a d => ?_
 refine a8 V9 (b6 (l1 Tryz.isAgg3 a rfl) (a8 pGt ?_))
 refine f6 h (fun _ h => ?_) (fun _ h => ?_)
 ·exact hR _ H _ _ a.drop ⟨2, rfl, rfl, h⟩
 ·exact hR _ H _ _ a.drop ⟨1, rfl, rfl, h⟩
end Go.Proofs.YtnhkdkcgdcgmdaaGreatDoor
