/- Typed formulas of the program's functions that few laws need; printed by lift.py off the code. -/
import Derived.Test.YtnhkdkcgdcgmdaaGreatDoorzXV1
import Derived.Test.YtnhkdkcgdcgmdaaGreatDoorzXG1s
namespace Go.Proofs.YtnhkdkcgdcgmdaaGreatDoor
open Go.RowKit
set_option maxRecDepth 100000
set_option maxHeartbeats 2000000
def a3m (H : Hp) (K : Bool → Hp → Prop) : Prop :=
 K true H
def a1d (a5A : Sl) (a5y : Sl) (A8 : Int) (H : Hp) (n2 : Int → Hp → Prop) (K : Bool → Hp → Prop) : Prop :=
 (A8 < (a5A.n : Int) →
 (0 : Int) ≤ A8 ∧ (A8 : Int) < a5A.n ∧ ∃ a : Int, EltH H a5A A8 1 [(vi a)] ∧
 (0 : Int) ≤ A8 ∧ (A8 : Int) < a5y.n ∧ ∃ b : Int, EltH H a5y A8 1 [(vi b)] ∧
 (¬ (a = b) →
 K false H) ∧
 (a = b →
 n2 (IntKind.wrap .i64 (A8 + 1)) H)) ∧
 (¬ (A8 < (a5A.n : Int)) →
 a3m H K)
def a4g (x0 : Sl) (x1 : Sl) (H : Hp) (K : Bool → Hp → Prop) : Prop :=
 (¬ ((x0.n : Int) = (x1.n : Int)) →
 K false H) ∧
 ((x0.n : Int) = (x1.n : Int) →
 TL (0 : Int) H fun (s : Int) H n2 => a1d x0 x1 s H n2 K)
theorem b0t (x0 x1) {H K} (h : a4g x0 x1 H K) : a2g x0 x1 H K := by
 refine Ct.of fun w0 w ps0 H0 R E I hR => d3a ?_
 unfold a4g at h
 unfold F19
 refine a8 (a4l _ _ _) (a8 (a4l _ _ _) (a8 pNe ?_))
 refine a1v h (fun _ h => ?_) (fun _ h => ?_)
 ·exact hR _ H _ _ I ⟨false, rfl, rfl, h⟩
 ·have hj1 : ∀ H w (_ : Inv w0 ps0 H0 H [] w) (_ : a3m H K), c0W w R E := by
   intro H w I h
   unfold c0W
   intro _
   unfold a3m at h
   exact hR _ H _ _ I ⟨true, rfl, rfl, h⟩
  refine r5 fun j1 hx1 => ?_
  obtain ⟨e, c, j, k⟩ := h
  refine y7 (J := fun n l w => ∃ (s : Int) (H : Hp) , n = c s ∧ l = [(vi s)] ∧ Inv w0 ps0 H0 H [] w ∧ e s H) ⟨_, 0, H, rfl, rfl, I, j⟩ ?_
  rintro aa ab w next2 ⟨A8, H, rfl, i, I, m⟩ hn2
  simp only [List.map_cons, List.map_nil, List.cons.injEq, and_true] at i
  have e5 := i
  simp only [e5]
  obtain ⟨n2, hm2, h⟩ : ∃ n2 : Int → Hp → Prop, (∀ s' H', n2 s' H' → e s' H' ∧ c s' < c A8) ∧ a1d x0 x1 A8 H n2 K := ⟨_, fun _ _ h => h, k A8 H (fun s' H' => e s' H' ∧ c s' < c A8) m (fun _ _ a b => ⟨a, b⟩)⟩
  unfold c5C
  unfold a1d at h
  refine a8 (a4l _ _ _) (a8 pLs ?_)
  refine f6 h (fun _ h => ?_) (fun _ h => ?_)
  ·refine U6 I fun ac d => ?_
   obtain ⟨o, p, q, f, h⟩ := h
   obtain ⟨ad, ae, r, f⟩ := f
   refine j8 (P4 r _ _ _ _ o p) ?_
   obtain ⟨t, u, y, g, h⟩ := h
   obtain ⟨af, ag, z, g⟩ := g
   refine j8 (P4 z _ _ _ _ t u) ?_
   refine u7 (ld1 (v := (vi q)) Tryz.isAgg2 (d.atH f)) ?_
   refine u7 (ld1 (v := (vi y)) Tryz.isAgg2 (d.atH g)) ?_
   refine j8 pNe ?_
   refine a1v h (fun _ h => ?_) (fun _ h => ?_)
   ·exact hR _ H _ _ d ⟨false, rfl, rfl, h⟩
   ·refine a8 pAd ?_
    exact hn2 _ _ _ (hm2 _ _ h).2 ⟨(IntKind.wrap .i64 (A8 + 1)), H, rfl, rfl, d, (hm2 _ _ h).1⟩
  ·exact hx1 _ _ (hj1 H _ I h)
def a2z (a : i5) (b : i5) (H : Hp) (K : Bool → Hp → Prop) : Prop :=
 K true H
def a0m (b : i5) (a : i5) (G6 : Int) (H : Hp) (n3 : Int → Hp → Prop) (K : Bool → Hp → Prop) : Prop :=
 (G6 < (a.O9.n : Int) →
 (0 : Int) ≤ G6 ∧ (G6 : Int) < a.O9.n ∧ ∃ c : Sl, EltH H a.O9 G6 1 [(vs c)] ∧
 (0 : Int) ≤ G6 ∧ (G6 : Int) < b.O9.n ∧ ∃ d : Sl, EltH H b.O9 G6 1 [(vs d)] ∧
 a2g c d H (fun e f =>
 ((!e) = true →
 K false f) ∧
 ((!e) = false →
 n3 (IntKind.wrap .i64 (G6 + 1)) f))) ∧
 (¬ (G6 < (a.O9.n : Int)) →
 a2z b a H K)
def a0o (a : i5) (b : i5) (H : Hp) (K : Bool → Hp → Prop) : Prop :=
 TL (0 : Int) H fun (s : Int) H n3 => a0m a b s H n3 K
def R8 (d : i5) (c : i5) (G2 : Int) (H : Hp) (n4 : Int → Hp → Prop) (K : Bool → Hp → Prop) : Prop :=
 (G2 < (c.Q6.n : Int) →
 (0 : Int) ≤ G2 ∧ (G2 : Int) < c.Q6.n ∧ ∃ a : d7, EltH H c.Q6 G2 3 (r8 a) ∧
 (0 : Int) ≤ G2 ∧ (G2 : Int) < d.Q6.n ∧ ∃ b : d7, EltH H d.Q6 G2 3 (r8 b) ∧
 (¬ (a.b2G = b.b2G ∧ a.C9 = b.C9 ∧ a.b6o = b.b6o) →
 K false H) ∧
 (a.b2G = b.b2G ∧ a.C9 = b.C9 ∧ a.b6o = b.b6o →
 n4 (IntKind.wrap .i64 (G2 + 1)) H)) ∧
 (¬ (G2 < (c.Q6.n : Int)) →
 a0o d c H K)
def a3z (x0 : i5) (x1 : i5) (H : Hp) (K : Bool → Hp → Prop) : Prop :=
 TG (((((!decide (x0.u6 = x1.u6)) || (!decide (x0.u1 = x1.u1))) || (!decide (x0.s7 = x1.s7))) || (!decide ((x0.Q6.n : Int) = (x1.Q6.n : Int)))) = false) (a2g x0.a5D x1.a5D H) false H (fun (a : Bool) (b : Hp) =>
 (((((((!decide (x0.u6 = x1.u6)) || (!decide (x0.u1 = x1.u1))) || (!decide (x0.s7 = x1.s7))) || (!decide ((x0.Q6.n : Int) = (x1.Q6.n : Int)))) || (!a)) || (!decide ((x0.O9.n : Int) = (x1.O9.n : Int)))) = true →
 K false b) ∧
 (((((((!decide (x0.u6 = x1.u6)) || (!decide (x0.u1 = x1.u1))) || (!decide (x0.s7 = x1.s7))) || (!decide ((x0.Q6.n : Int) = (x1.Q6.n : Int)))) || (!a)) || (!decide ((x0.O9.n : Int) = (x1.O9.n : Int)))) = false →
 TL (0 : Int) b fun (s : Int) H n4 => R8 x1 x0 s H n4 K))
theorem a9S (x0 x1) {H K} (h : a3z x0 x1 H K) : a5W x0 x1 H K := by
 refine Ct.of fun w0 w ps0 H0 R E I hR => d2Z ?_
 unfold a3z at h
 unfold F18
 refine F0 I (cs := (m9 x0)) rfl fun k bl am bm => ?_
 refine F0 am (cs := (m9 x1)) rfl fun m ae d bn => ?_
 refine a8 a5u (b6 (l1 Tryz.isAgg3 (d.bring 1) rfl) (a8 a5u (b6 (l1 Tryz.isAgg3 d rfl) (a8 pNe ?_))))
 refine a8 (Pu.g fun c => by exact b3m) ?_
 refine b6 (Ld.g fun c => by simp only [g7 c]; exact (l1 Tryz.isAgg3 (d.bring 1) rfl)) ?_
 refine a8 (Pu.g fun c => by exact b3m) ?_
 refine b6 (Ld.g fun c => by simp only [g7 c]; exact (l1 Tryz.isAgg3 d rfl)) ?_
 refine a8 (Pu.g fun c => by simp only [g7 c]; exact pNe) ?_
 refine a8 (E8 _ _) ?_
 refine a8 (Pu.g fun c => by exact a8J) ?_
 refine b6 (Ld.g fun c => by simp only [g7 c]; exact (l1 Tryz.isAgg3 (d.bring 1) rfl)) ?_
 refine a8 (Pu.g fun c => by exact a8J) ?_
 refine b6 (Ld.g fun c => by simp only [g7 c]; exact (l1 Tryz.isAgg3 d rfl)) ?_
 refine a8 (Pu.g fun c => by simp only [g7 c]; exact pNe) ?_
 refine a8 (E8 _ _) ?_
 refine a8 (Pu.g fun c => by exact a3Y) ?_
 refine b6 (Ld.g fun c => by simp only [g7 c]; exact (l1 Tryz.isAgg39 (d.bring 1) rfl)) ?_
 refine a8 (Pu.g fun c => by simp only [g7 c]; exact (b4k _ _ _)) ?_
 refine a8 (Pu.g fun c => by exact a3Y) ?_
 refine b6 (Ld.g fun c => by simp only [g7 c]; exact (l1 Tryz.isAgg39 d rfl)) ?_
 refine a8 (Pu.g fun c => by simp only [g7 c]; exact (b4k _ _ _)) ?_
 refine a8 (Pu.g fun c => by simp only [g7 c]; exact pNe) ?_
 refine a8 (E8 _ _) ?_
 refine a8 (Pu.g fun c => by exact a2s) ?_
 refine b6 (Ld.g fun c => by simp only [g7 c]; exact (l1 Tryz.isAgg37 (d.bring 1) rfl)) ?_
 refine a8 (Pu.g fun c => by exact a2s) ?_
 refine b6 (Ld.g fun c => by simp only [g7 c]; exact (l1 Tryz.isAgg37 d rfl)) ?_
 refine a0i (D := fun af u => ∃ (o : Bool) (f : Hp) , af = (gv ((((!decide (x0.u6 = x1.u6)) || (!decide (x0.u1 = x1.u1))) || (!decide (x0.s7 = x1.s7))) || (!decide ((x0.Q6.n : Int) = (x1.Q6.n : Int)))) false (vB o)) ∧ (Inv w0 ps0 H0 f [bx m 42 (m9 x1), bx k 42 (m9 x0)] u) ∧ (∀ i, i < ae.heap.size → ¬ inF [] i → u.heap[i]? = ae.heap[i]?) ∧ Hle H f ∧ ((((((((!decide (x0.u6 = x1.u6)) || (!decide (x0.u1 = x1.u1))) || (!decide (x0.s7 = x1.s7))) || (!decide ((x0.Q6.n : Int) = (x1.Q6.n : Int)))) || (!o)) || (!decide ((x0.O9.n : Int) = (x1.O9.n : Int)))) = true →
 K false f) ∧
 (((((((!decide (x0.u6 = x1.u6)) || (!decide (x0.u1 = x1.u1))) || (!decide (x0.s7 = x1.s7))) || (!decide ((x0.Q6.n : Int) = (x1.Q6.n : Int)))) || (!o)) || (!decide ((x0.O9.n : Int) = (x1.O9.n : Int)))) = false →
 TL (0 : Int) f fun (s : Int) H n4 => R8 x1 x0 s H n4 K))) (fun j => ?_) (fun j => ?_) ?_
 ·replace h := h.1 j
  have c := j
  simp only [g7 c]
  refine i6 Tryz.call19 h d ?_
  rintro _ f _ u e ag ah ⟨o, rfl, rfl, h⟩
  exact ⟨o, f, by rfl, e, ah, ag, h⟩
 ·exact ⟨false, H, by rw [a3E j], d, fun _ _ _ => rfl, Hle.refl _, h.2 j⟩
 ·clear h
  rintro af u ⟨o, f, rfl, e, ah, ag, h⟩
  refine a8 (Pu.g fun c => by simp only [g7 c]; exact (G3 _)) ?_
  refine a8 (E8 _ _) ?_
  refine a8 (Pu.g fun c => by exact a0j) ?_
  refine b6 (Ld.g fun c => by simp only [g7 c]; exact (l1 Tryz.isAgg40 (e.bring 1) rfl)) ?_
  refine a8 (Pu.g fun c => by simp only [g7 c]; exact (b4l _ _ _)) ?_
  refine a8 (Pu.g fun c => by exact a0j) ?_
  refine b6 (Ld.g fun c => by simp only [g7 c]; exact (l1 Tryz.isAgg40 e rfl)) ?_
  refine a8 (Pu.g fun c => by simp only [g7 c]; exact (b4l _ _ _)) ?_
  refine a8 (Pu.g fun c => by simp only [g7 c]; exact pNe) ?_
  refine a8 (E8 _ _) ?_
  refine m5 h (fun _ h => ?_) (fun _ h => ?_)
  ·exact hR _ f _ _ e.drop.drop ⟨false, rfl, rfl, h⟩
  ·have hj1 : ∀ H w (_ : Inv w0 ps0 H0 H [bx m 42 (m9 x1), bx k 42 (m9 x0)] w) (_ : a0o x1 x0 H K), c0V (Value.pointer (some ⟨k, 0, none⟩)) (Value.pointer (some ⟨m, 0, none⟩)) w R E := by
    intro H w I h
    unfold c0V
    intro _
    unfold a0o at h
    have hj2 : ∀ H w (_ : Inv w0 ps0 H0 H [bx m 42 (m9 x1), bx k 42 (m9 x0)] w) (_ : a2z x1 x0 H K), c0U w R E := by
     intro H w I h
     unfold c0U
     intro _
     unfold a2z at h
     exact hR _ H _ _ I.drop.drop ⟨true, rfl, rfl, h⟩
    refine r5 fun j2 hx2 => ?_
    obtain ⟨y, q, an, ao⟩ := h
    refine y7 (J := fun n l w => ∃ (s : Int) (H : Hp) , n = q s ∧ l = [(vi s)] ∧ Inv w0 ps0 H0 H [bx m 42 (m9 x1), bx k 42 (m9 x0)] w ∧ y s H) ⟨_, 0, H, rfl, rfl, ((I.bring 1).bring 1), an⟩ ?_
    rintro bo bp w next3 ⟨G6, H, rfl, ai, I, ap⟩ hn3
    simp only [List.map_cons, List.map_nil, List.cons.injEq, and_true] at ai
    have e6 := ai
    simp only [e6]
    obtain ⟨n3, hm3, h⟩ : ∃ n3 : Int → Hp → Prop, (∀ s' H', n3 s' H' → y s' H' ∧ q s' < q G6) ∧ a0m x1 x0 G6 H n3 K := ⟨_, fun _ _ h => h, ao G6 H (fun s' H' => y s' H' ∧ q s' < q G6) ap (fun _ _ a b => ⟨a, b⟩)⟩
    unfold c5A
    unfold a0m at h
    refine a8 a0j (b6 (l1 Tryz.isAgg40 (I.bring 1) rfl) (a8 (b4l _ _ _) (a8 pLs ?_)))
    refine f6 h (fun _ h => ?_) (fun _ h => ?_)
    ·refine U6 I fun bq r => ?_
     refine j8 a0j ?_
     refine j8 a0j ?_
     refine u7 (l1 Tryz.isAgg40 (r.bring 1) rfl) ?_
     obtain ⟨aq, ar, au, z, h⟩ := h
     obtain ⟨br, bs, av, z⟩ := z
     refine j8 (a9q av _ _ _ _ aq ar) ?_
     refine u7 (ld1 (v := (vs au)) Tryz.isAgg37 (r.atH z)) ?_
     refine u7 (l1 Tryz.isAgg40 r rfl) ?_
     obtain ⟨aw, ax, ay, aa, h⟩ := h
     obtain ⟨bt, bu, az, aa⟩ := aa
     refine j8 (a9q az _ _ _ _ aw ax) ?_
     refine u7 (ld1 (v := (vs ay)) Tryz.isAgg37 (r.atH aa)) ?_
     refine i6 Tryz.call19 h r ?_
     rintro _ aj _ bv ak _ _ ⟨bw, rfl, rfl, h⟩
     refine j8 (G3 _) ?_
     refine m5 h (fun _ h => ?_) (fun _ h => ?_)
     ·exact hR _ aj _ _ ak.drop.drop ⟨false, rfl, rfl, h⟩
     ·refine a8 pAd ?_
      exact hn3 _ _ _ (hm3 _ _ h).2 ⟨(IntKind.wrap .i64 (G6 + 1)), aj, rfl, rfl, ((ak.bring 1).bring 1), (hm3 _ _ h).1⟩
    ·exact hx2 _ _ (hj2 H _ ((I.bring 1).bring 1) h)
   refine r5 fun j1 hx1 => ?_
   obtain ⟨ab, t, ba, bb⟩ := h
   refine y7 (J := fun n l w => ∃ (s : Int) (H : Hp) , n = t s ∧ l = [(vi s)] ∧ Inv w0 ps0 H0 H [bx m 42 (m9 x1), bx k 42 (m9 x0)] w ∧ ab s H) ⟨_, 0, f, rfl, rfl, ((e.bring 1).bring 1), ba⟩ ?_
   rintro bz ca w next4 ⟨G2, H, rfl, al, I, bc⟩ hn4
   simp only [List.map_cons, List.map_nil, List.cons.injEq, and_true] at al
   have e5 := al
   simp only [e5]
   obtain ⟨n4, hm4, h⟩ : ∃ n4 : Int → Hp → Prop, (∀ s' H', n4 s' H' → ab s' H' ∧ t s' < t G2) ∧ R8 x1 x0 G2 H n4 K := ⟨_, fun _ _ h => h, bb G2 H (fun s' H' => ab s' H' ∧ t s' < t G2) bc (fun _ _ a b => ⟨a, b⟩)⟩
   unfold c5B
   unfold R8 at h
   refine a8 a3Y (b6 (l1 Tryz.isAgg39 (I.bring 1) rfl) (a8 (b4k _ _ _) (a8 pLs ?_)))
   refine f6 h (fun _ h => ?_) (fun _ h => ?_)
   ·refine U6 I fun cb p => ?_
    refine j8 a3Y ?_
    refine j8 a3Y ?_
    refine u7 (l1 Tryz.isAgg39 (p.bring 1) rfl) ?_
    obtain ⟨bd, be, bf, ac, h⟩ := h
    obtain ⟨cc, cd, bg, ac⟩ := ac
    refine j8 (b9J bg _ _ _ _ bd be) ?_
    refine u7 (ldA (vs := (r8 bf)) Tryz.isAgg95 Tryz.sizeOf95 rfl (p.atH ac)) ?_
    refine u7 (l1 Tryz.isAgg39 p rfl) ?_
    obtain ⟨bh, bi, bj, ad, h⟩ := h
    obtain ⟨ce, cf, bk, ad⟩ := ad
    refine j8 (b9J bk _ _ _ _ bh bi) ?_
    refine u7 (ldA (vs := (r8 bj)) Tryz.isAgg95 Tryz.sizeOf95 rfl (p.atH ad)) ?_
    refine j8 (c6q _ _ _ _ _ _ _ _) ?_
    refine a1v h (fun _ h => ?_) (fun _ h => ?_)
    ·exact hR _ H _ _ p.drop.drop ⟨false, rfl, rfl, h⟩
    ·refine a8 pAd ?_
     exact hn4 _ _ _ (hm4 _ _ h).2 ⟨(IntKind.wrap .i64 (G2 + 1)), H, rfl, rfl, ((p.bring 1).bring 1), (hm4 _ _ h).1⟩
   ·exact hx1 _ _ (hj1 H _ ((I.bring 1).bring 1) h)
def a4h (H : Hp) (K : Bool → Hp → Prop) : Prop :=
 ∀ (b : Sl) (i : Hp), Hle H i → SlH i 4 f4 b [(m2.mk 2 0 ⟨#[120]⟩ (Sl.mk none 0 0)), (m2.mk 1 2 ⟨#[]⟩ (Sl.mk none 0 0))] → b.n ≤ b.c →
 ∀ (d : Sl) (j : Hp), Hle i j → SlH j 4 f4 d [(m2.mk 1 1 ⟨#[]⟩ (Sl.mk none 0 0))] → d.n ≤ d.c →
 ∀ (e : Sl) (k : Hp), Hle j k → SlH k 4 f4 e [(m2.mk 6 0 ⟨#[]⟩ b)] → e.n ≤ e.c →
 ∀ (f : Sl) (l : Hp), Hle k l → SlH l 2 o7 f [(i8.mk ⟨#[120]⟩ 0)] → f.n ≤ f.c →
 ∀ (g : Sl) (m : Hp), Hle l m → SlH m 6 f8 g [(m7.mk 1 ⟨#[120]⟩ d (Sl.mk none 0 0) (Sl.mk none 0 0) (Sl.mk none 0 0)), (m7.mk 1 ⟨#[120]⟩ e (Sl.mk none 0 0) (Sl.mk none 0 0) (Sl.mk none 0 0))] → g.n ≤ g.c →
 b1d (o3.mk f g) (Sl.mk none 0 0) 9 m (fun a o p =>
 ∃ q : Int, (((((decide (o = 0)) && (decide (a.u6 = 2))) && (decide (a.s7 = 2))) && (decide ((a.a5D.n : Int) = 1))) = true → (0 : Int) ≤ 0 ∧ (0 : Int) < a.a5D.n ∧ EltH p a.a5D 0 1 [(vi q)]) ∧
 K (((((decide (o = 0)) && (decide (a.u6 = 2))) && (decide (a.s7 = 2))) && (decide ((a.a5D.n : Int) = 1))) && (decide (q = 3))) p)
theorem b0u {H K} (h : a4h H K) : a6L H K := by
 refine Ct.of fun w0 w ps0 H0 R E I hR => d2V ?_
 unfold a4h at h
 unfold F14
 refine a8 (b8U _ _) (a8 (b3Y _ _) ?_)
 refine a2l (e := 53) (c := f4) (xs := [(m2.mk 2 0 ⟨#[120]⟩ (Sl.mk none 0 0)), (m2.mk 1 2 ⟨#[]⟩ (Sl.mk none 0 0))]) I (c8f _ _ _ _ _ _ _ _ _ _ _ _) rfl rfl a9U a9V (nb rfl) fun f bm bn t u bo => ?_
 refine a8 (b8T _ _ _ _) ?_
 refine B9 u Tryz.zeroValue53 (cs := [(vi 0), (vi 0), (eS), (nS)]) rfl fun bp bq y br => ?_
 refine o4 y Tryz.sizeOf53 (vs := [(vi 6), (vi 0), (eS), (vs f)]) (cs' := [(vi 6), (vi 0), (eS), (vs f)]) rfl rfl (nb rfl) rfl rfl fun bs z bt => ?_
 refine a8 (c1G _) ?_
 refine a2l (e := 71) (c := o7) (xs := [(i8.mk ⟨#[120]⟩ 0)]) z (c2f _ _) rfl rfl a9W a9X (nb rfl) fun j bu bv aa ab bw => ?_
 refine a8 (b3Y _ _) ?_
 refine a2l (e := 53) (c := f4) (xs := [(m2.mk 1 1 ⟨#[]⟩ (Sl.mk none 0 0))]) ab (c2e _ _ _ _ _ _) rfl rfl a9U a9V (nb rfl) fun m bz ca ac p cb => ?_
 refine a8 (b1Z _ _ _ _ _) (b6 (ldA Tryz.isAgg53 Tryz.sizeOf53 rfl ((p.bring 2).at1 (o := 0) (vs := [(vi 6), (vi 0), (eS), (vs f)]) (nb rfl) rfl)) ?_)
 obtain ⟨ad, ae, af, ag, ah⟩ := Inv.freezeC (p.bring 3) t (by decide)
 replace h := h f ad af ag ah
 refine a2l (e := 53) (c := f4) (xs := [(m2.mk 6 0 ⟨#[]⟩ f)]) ae (c2e _ _ _ _ _ _) rfl rfl a9U a9V (nb rfl) fun q cc cd ai aj ce => ?_
 refine a8 (b1Z _ _ _ _ _) ?_
 obtain ⟨ak, al, am, an, ao⟩ := Inv.freezeC (aj.bring 1) ac (by decide)
 replace h := h m ak am an ao
 obtain ⟨ap, aq, ar, au, av⟩ := Inv.freezeC al ai (by decide)
 replace h := h q ap ar au av
 refine a2l (e := 73) (c := f8) (xs := [(m7.mk 1 ⟨#[120]⟩ m (Sl.mk none 0 0) (Sl.mk none 0 0) (Sl.mk none 0 0)), (m7.mk 1 ⟨#[120]⟩ q (Sl.mk none 0 0) (Sl.mk none 0 0) (Sl.mk none 0 0))]) aq (c8g _ _ _ _ _ _ _ _ _ _ _ _ _ _ _ _ _ _ _ _ _ _ _ _ _ _ _ _) rfl rfl b8W b8X (nb rfl) fun k cf cg aw ax ch => ?_
 refine a8 (b8V _ _ _ _ _ _) ?_
 refine B9 ax Tryz.zeroValue25 (cs := [(nS), (nS)]) rfl fun ci cj ay ck => ?_
 refine o4 ay Tryz.sizeOf25 (vs := [(vs j), (vs k)]) (cs' := [(vs j), (vs k)]) rfl rfl (nb rfl) rfl rfl fun cl r cm => ?_
 refine b6 (ldA Tryz.isAgg25 Tryz.sizeOf25 rfl (r.at1 (o := 0) (vs := [(vs j), (vs k)]) (nb rfl) rfl)) ?_
 obtain ⟨az, ba, bb, bc, bd⟩ := Inv.freezeC (r.bring 2) aa (by decide)
 replace h := h j az bb bc bd
 obtain ⟨be, bf, bg, bh, bi⟩ := Inv.freezeC (ba.bring 1) aw (by decide)
 replace h := h k be bg bh bi
 refine i6 Tryz.call16 h bf ?_
 rintro _ bj _ cn bk _ _ ⟨i, s, rfl, rfl, h⟩
 refine a8 (m8 _ _ _ rfl) (a8 (m8 _ _ (vi s) rfl) ?_)
 refine B9 bk Tryz.zeroValue42 (cs := [(vi 0), (vi 0), (vi 0), (nS), (nS), (nS)]) rfl fun co cp bl cq => ?_
 refine o4 bl Tryz.sizeOf42 (vs := (m9 i)) (cs' := (m9 i)) rfl rfl (nb rfl) rfl rfl fun cr b ct => ?_
 refine a8 pEq ?_
 refine a8 (Pu.g fun a => by exact a5u) ?_
 refine b6 (Ld.g fun a => by simp only [g7 a]; exact (l1 Tryz.isAgg3 b rfl)) ?_
 refine a8 (Pu.g fun a => by simp only [g7 a]; exact pEq) ?_
 refine a8 (v7 _ _) ?_
 refine a8 (Pu.g fun a => by exact a8J) ?_
 refine b6 (Ld.g fun a => by simp only [g7 a]; exact (l1 Tryz.isAgg3 b rfl)) ?_
 refine a8 (Pu.g fun a => by simp only [g7 a]; exact pEq) ?_
 refine a8 (v7 _ _) ?_
 refine a8 (Pu.g fun a => by exact a2s) ?_
 refine b6 (Ld.g fun a => by simp only [g7 a]; exact (l1 Tryz.isAgg37 b rfl)) ?_
 refine a8 (Pu.g fun a => by simp only [g7 a]; exact (a4l _ _ _)) ?_
 refine a8 (Pu.g fun a => by simp only [g7 a]; exact pEq) ?_
 refine a8 (v7 _ _) ?_
 refine a8 (Pu.g fun a => by exact a2s) ?_
 refine b6 (Ld.g fun a => by simp only [g7 a]; exact (l1 Tryz.isAgg37 b rfl)) ?_
 obtain ⟨l, d, h⟩ := h
 obtain ⟨cu, cv, d⟩ := b3d d
 refine a8 (Pu.g fun hb => by have a := hb; simp only [g7 a]; exact (P4 (d hb).2.2.1 _ _ _ _ (d hb).1 (d hb).2.1)) ?_
 refine b6 (Ld.g fun hb => by have a := hb; simp only [g7 a]; exact (ld1 (v := (vi l)) Tryz.isAgg2 (b.atH (d hb).2.2.2))) ?_
 refine a8 (Pu.g fun a => by simp only [g7 a]; exact pEq) ?_
 refine a8 (v7 _ _) ?_
 exact hR _ bj _ _ b.drop.drop.drop ⟨(((((decide (s = 0)) && (decide (i.u6 = 2))) && (decide (i.s7 = 2))) && (decide ((i.a5D.n : Int) = 1))) && (decide (l = 3))), rfl, rfl, h⟩
def a7A (x0 : Sl) (x1 : Int) (H : Hp) (K : Bool → Hp → Prop) : Prop :=
 K ((decide ((x0.n : Int) ≤ 3000)) && ((decide (x1 ≤ 3000)) || (decide (65536 < x1)))) H
theorem b1X (x0 x1) {H K} (h : a7A x0 x1 H K) : b1F x0 x1 H K := by
 refine Ct.of fun w0 w ps0 H0 R E I hR => d2W ?_
 unfold a7A at h
 unfold F15
 refine a8 (a4l _ _ _) (a8 pLe ?_)
 simp only [t8]
 refine a8 (Pu.g fun a => by simp only [g7 a]; exact pLe) ?_
 simp only [a5t, b9w]
 refine a8 (Pu.e (a2W _ _ _) (Pu.g fun hb => by obtain ⟨a, b⟩ := a4K hb; simp only [g7 hb]; exact pGt)) ?_
 refine a8 (Pu.g fun a => by simp only [g7 a, b2E a]; exact (E8 _ _)) ?_
 refine a8 (v7 _ _) ?_
 exact hR _ H _ _ I ⟨((decide ((x0.n : Int) ≤ 3000)) && ((decide (x1 ≤ 3000)) || (decide (65536 < x1)))), rfl, rfl, h⟩
def a6x (x0 : b8) (a : (List d7)) (b : (List Int)) (c : (List (List Int))) (H : Hp) (K : Bool → Hp → Prop) : Prop :=
 K ((!x0.fended) && (!x0.fout)) H
theorem b0b (x0 b c d) {H K} (h : a6x x0 b c d H K) : u0 x0 b c d H K := by
 intro g0 e f i j k l m n o
 refine Ct.of fun w0 w ps0 H0 R E I hR => d3d ?_
 unfold a6x at h
 unfold F63
 refine a8 (m3 _) (a8 a8K (b6 (l1 Tryz.isAgg4 I rfl) (a8 (G3 _) ?_)))
 simp only [t8]
 refine a8 (Pu.g fun a => by simp only [g7 a]; exact (m3 _)) ?_
 refine a8 (Pu.g fun a => by simp only [g7 a]; exact b3k) ?_
 refine b6 (Ld.g fun a => by simp only [g7 a]; exact (l1 Tryz.isAgg4 I rfl)) ?_
 refine a8 (Pu.g fun a => by simp only [g7 a]; exact (G3 _)) ?_
 refine a8 (v7 _ _) ?_
 exact hR _ H _ _ ((((I.bring 3).bring 3).bring 3).bring 3) ⟨((!x0.fended) && (!x0.fout)), rfl, rfl, h⟩
def a1e (x0 : b8) (a : (List d7)) (b : (List Int)) (c : (List (List Int))) (H : Hp) (K : Bool → b8 → (List d7) → (List Int) → (List (List Int)) → Hp → Prop) : Prop :=
 u0 (d5 x0) a b c H (fun e d =>
 ((!e) = true →
 K false (d5 x0) a b c d) ∧
 ((!e) = false →
 (x0.fleft = 0 →
 K false (b8.mk x0.fscript x0.fleft x0.fended true (i5.mk x0.fo.u6 x0.fo.u1 x0.fo.s7 (Sl.mk none 0 0) (Sl.mk none 0 0) (Sl.mk none 0 0)) x0.fnames x0.flists x0.ftaken) a b c d) ∧
 (¬ (x0.fleft = 0) →
 K true (b8.mk x0.fscript (IntKind.wrap .i64 (x0.fleft - 1)) x0.fended x0.fout (i5.mk x0.fo.u6 x0.fo.u1 (IntKind.wrap .i64 (x0.fo.s7 + 1)) (Sl.mk none 0 0) (Sl.mk none 0 0) (Sl.mk none 0 0)) x0.fnames x0.flists x0.ftaken) a b c d)))
theorem a5T (x0 d e f) {H K} (h : a1e x0 d e f H K) : A6 x0 d e f H K := by
 intro g0 a i b j c k l m n
 refine Ct.of fun w0 w ps0 H0 R E I hR => c9Y ?_
 unfold a1e at h
 unfold d3g
 refine i6 Tryz.call63 (h g0 a i b j c k l m n) ((((I.bring 3).bring 3).bring 3).bring 3) ?_
 rintro _ o _ s g _ _ ⟨t, rfl, rfl, h⟩
 refine a8 (G3 _) ?_
 refine m5 h (fun _ h => ?_) (fun _ h => ?_)
 ·exact hR _ o _ _ ((((g.bring 3).bring 3).bring 3).bring 3) ⟨false, (d5 x0), d, e, f, a, i, b, j, c, k, rfl, rfl, l, m, n, h⟩
 ·refine a8 (m3 _) (a8 b3l (b6 (l1 Tryz.isAgg3 g rfl) (a8 pEq ?_)))
  refine f6 h (fun _ h => ?_) (fun _ h => ?_)
  ·refine a8 (m3 _) (a8 b3k ?_)
   refine o4 g Tryz.sizeOf4 (vs := [(vB true)]) (cs' := [(vs x0.fscript), (vi x0.fleft), (vB x0.fended), (vB true), (vi x0.fo.u6), (vi x0.fo.u1), (vi x0.fo.s7), (vs a), (vs b), (vs c), (vs x0.fnames), (vs x0.flists), (vi x0.ftaken)]) rfl rfl (nb rfl) rfl rfl fun u q v => ?_
   exact hR _ o _ _ ((((q.bring 3).bring 3).bring 3).bring 3) ⟨false, (b8.mk x0.fscript x0.fleft x0.fended true (i5.mk x0.fo.u6 x0.fo.u1 x0.fo.s7 (Sl.mk none 0 0) (Sl.mk none 0 0) (Sl.mk none 0 0)) x0.fnames x0.flists x0.ftaken), d, e, f, a, i, b, j, c, k, rfl, rfl, l, m, n, h⟩
  ·refine a8 (m3 _) (a8 b3l (b6 (l1 Tryz.isAgg3 g rfl) (a8 pSu (a8 (m3 _) ?_))))
   refine a8 b3l ?_
   refine o4 g Tryz.sizeOf3 (vs := [(vi (IntKind.wrap .i64 (x0.fleft - 1)))]) (cs' := [(vs x0.fscript), (vi (IntKind.wrap .i64 (x0.fleft - 1))), (vB x0.fended), (vB x0.fout), (vi x0.fo.u6), (vi x0.fo.u1), (vi x0.fo.s7), (vs a), (vs b), (vs c), (vs x0.fnames), (vs x0.flists), (vi x0.ftaken)]) rfl rfl (nb rfl) rfl rfl fun y p z => ?_
   refine a8 (m3 _) (a8 O2 (a8 a8J (b6 (l1 Tryz.isAgg3 p rfl) (a8 pAd ?_))))
   refine a8 (m3 _) (a8 O2 (a8 a8J ?_))
   refine o4 p Tryz.sizeOf3 (vs := [(vi (IntKind.wrap .i64 (x0.fo.s7 + 1)))]) (cs' := [(vs x0.fscript), (vi (IntKind.wrap .i64 (x0.fleft - 1))), (vB x0.fended), (vB x0.fout), (vi x0.fo.u6), (vi x0.fo.u1), (vi (IntKind.wrap .i64 (x0.fo.s7 + 1))), (vs a), (vs b), (vs c), (vs x0.fnames), (vs x0.flists), (vi x0.ftaken)]) rfl rfl (nb rfl) rfl rfl fun aa r ab => ?_
   exact hR _ o _ _ ((((r.bring 3).bring 3).bring 3).bring 3) ⟨true, (b8.mk x0.fscript (IntKind.wrap .i64 (x0.fleft - 1)) x0.fended x0.fout (i5.mk x0.fo.u6 x0.fo.u1 (IntKind.wrap .i64 (x0.fo.s7 + 1)) (Sl.mk none 0 0) (Sl.mk none 0 0) (Sl.mk none 0 0)) x0.fnames x0.flists x0.ftaken), d, e, f, a, i, b, j, c, k, rfl, rfl, l, m, n, h⟩
def a5C (x0 : b8) (a : (List d7)) (b : (List Int)) (c : (List (List Int))) (x1 : Int) (H : Hp) (K : b8 → (List d7) → (List Int) → (List (List Int)) → Hp → Prop) : Prop :=
 K (b8.mk x0.fscript x0.fleft true x0.fout (i5.mk 3 x1 x0.fo.s7 (Sl.mk none 0 0) (Sl.mk none 0 0) (Sl.mk none 0 0)) x0.fnames x0.flists x0.ftaken) a b c H
theorem a9i (x0 d e f x1) {H K} (h : a5C x0 d e f x1 H K) : P1 x0 d e f x1 H K := by
 intro g0 a g b i c j k l m
 refine Ct.of fun w0 w ps0 H0 R E I hR => d0c ?_
 unfold a5C at h
 unfold d3k
 refine a8 (m3 _) (a8 a8K ?_)
 refine o4 I Tryz.sizeOf4 (vs := [(vB true)]) (cs' := [(vs x0.fscript), (vi x0.fleft), (vB true), (vB x0.fout), (vi x0.fo.u6), (vi x0.fo.u1), (vi x0.fo.s7), (vs a), (vs b), (vs c), (vs x0.fnames), (vs x0.flists), (vi x0.ftaken)]) rfl rfl (nb rfl) rfl rfl fun q n r => ?_
 refine a8 (m3 _) (a8 O2 (a8 a5u ?_))
 refine o4 n Tryz.sizeOf3 (vs := [(vi 3)]) (cs' := [(vs x0.fscript), (vi x0.fleft), (vB true), (vB x0.fout), (vi 3), (vi x0.fo.u1), (vi x0.fo.s7), (vs a), (vs b), (vs c), (vs x0.fnames), (vs x0.flists), (vi x0.ftaken)]) rfl rfl (nb rfl) rfl rfl fun s o t => ?_
 refine a8 (m3 _) (a8 O2 (a8 b3m ?_))
 refine o4 o Tryz.sizeOf3 (vs := [(vi x1)]) (cs' := [(vs x0.fscript), (vi x0.fleft), (vB true), (vB x0.fout), (vi 3), (vi x1), (vi x0.fo.s7), (vs a), (vs b), (vs c), (vs x0.fnames), (vs x0.flists), (vi x0.ftaken)]) rfl rfl (nb rfl) rfl rfl fun u p v => ?_
 exact hR _ H _ _ ((((p.bring 3).bring 3).bring 3).bring 3) ⟨(b8.mk x0.fscript x0.fleft true x0.fout (i5.mk 3 x1 x0.fo.s7 (Sl.mk none 0 0) (Sl.mk none 0 0) (Sl.mk none 0 0)) x0.fnames x0.flists x0.ftaken), d, e, f, a, g, b, i, c, j, rfl, rfl, k, l, m, h⟩
def a5U (x0 : m2) (H : Hp) (K : Int → Bool → Hp → Prop) : Prop :=
 (x0.b7 = 1 →
 K x0.C9 true H) ∧
 (¬ (x0.b7 = 1) →
 ∃ a : m2, ((decide (x0.b7 = 5)) = true → (0 : Int) ≤ 0 ∧ (0 : Int) < x0.z8.n ∧ EltH H x0.z8 0 4 (f4 a)) ∧
 (((decide (x0.b7 = 5)) && (decide (a.b7 = 1))) = true →
 (0 : Int) ≤ 0 ∧ (0 : Int) < x0.z8.n ∧ ∃ b : m2, EltH H x0.z8 0 4 (f4 b) ∧
 K (IntKind.wrap .i64 (0 - b.C9)) true H) ∧
 (((decide (x0.b7 = 5)) && (decide (a.b7 = 1))) = false →
 K 0 false H))
theorem a9D (x0) {H K} (h : a5U x0 H K) : a0P x0 H K := by
 refine Ct.of fun w0 w ps0 H0 R E I hR => d0l ?_
 unfold a5U at h
 unfold d3t
 refine F0 I (cs := (f4 x0)) rfl fun m o b p => ?_
 refine a8 K8 (b6 (l1 Tryz.isAgg3 b rfl) (a8 pEq ?_))
 refine f6 h (fun _ h => ?_) (fun _ h => ?_)
 ·refine a8 a5v (b6 (l1 Tryz.isAgg2 b rfl) ?_)
  exact hR _ H _ _ b.drop ⟨x0.C9, true, rfl, rfl, h⟩
 ·refine a8 K8 (b6 (l1 Tryz.isAgg3 b rfl) (a8 pEq ?_))
  refine a8 (Pu.g fun a => by exact P5) ?_
  refine b6 (Ld.g fun a => by simp only [g7 a]; exact (l1 Tryz.isAgg51 b rfl)) ?_
  obtain ⟨d, c, h⟩ := h
  obtain ⟨q, r, c⟩ := b3d c
  refine a8 (Pu.g fun hb => by have a := hb; simp only [g7 a]; exact (K9 (c hb).2.2.1 _ _ _ _ (c hb).1 (c hb).2.1)) ?_
  refine a8 (Pu.g fun a => by simp only [g7 a]; exact K8) ?_
  refine b6 (Ld.g fun hb => by have a := hb; simp only [g7 a]; exact (ld1 (v := (vi d.b7)) Tryz.isAgg3 ((b.atH (c hb).2.2.2).sub (k := 0) (n := 1) (nb rfl)))) ?_
  refine a8 (Pu.g fun a => by simp only [g7 a]; exact pEq) ?_
  refine a8 (v7 _ _) ?_
  refine m5 h (fun _ h => ?_) (fun _ h => ?_)
  ·refine a8 P5 (b6 (l1 Tryz.isAgg51 b rfl) ?_)
   obtain ⟨i, j, f, e, h⟩ := h
   obtain ⟨s, t, l, e⟩ := e
   refine a8 (K9 l _ _ _ _ i j) (a8 a5v (b6 (ld1 (v := (vi f.C9)) Tryz.isAgg2 ((b.atH e).sub (k := 1) (n := 1) (nb rfl))) (a8 (b6j _ _) ?_)))
   exact hR _ H _ _ b.drop ⟨(IntKind.wrap .i64 (0 - f.C9)), true, rfl, rfl, h⟩
  ·exact hR _ H _ _ b.drop ⟨0, false, rfl, rfl, h⟩
def a3A (H : Hp) (K : Int → Hp → Prop) : Prop :=
 K (-1) H
def a1D (a5A : Sl) (a5y : ByteArray) (A8 : Int) (H : Hp) (n2 : Int → Hp → Prop) (K : Int → Hp → Prop) : Prop :=
 (A8 < (a5A.n : Int) →
 (0 : Int) ≤ A8 ∧ (A8 : Int) < a5A.n ∧ ∃ a : ByteArray, EltH H a5A A8 1 [(Value.string a)] ∧
 (a = a5y →
 K A8 H) ∧
 (¬ (a = a5y) →
 n2 (IntKind.wrap .i64 (A8 + 1)) H)) ∧
 (¬ (A8 < (a5A.n : Int)) →
 a3A H K)
def a4F (x0 : Sl) (x1 : ByteArray) (H : Hp) (K : Int → Hp → Prop) : Prop :=
 TL (0 : Int) H fun (s : Int) H n2 => a1D x0 x1 s H n2 K
theorem b1r (x0 x1) {H K} (h : a4F x0 x1 H K) : L3 x0 x1 H K := by
 refine Ct.of fun w0 w ps0 H0 R E I hR => d0m ?_
 unfold a4F at h
 unfold d3u
 have hj1 : ∀ H w (_ : Inv w0 ps0 H0 H [] w) (_ : a3A H K), b8j w R E := by
  intro H w I h
  unfold b8j
  intro _
  unfold a3A at h
  exact hR _ H _ _ I ⟨(-1), rfl, rfl, h⟩
 refine r5 fun j1 hx1 => ?_
 obtain ⟨d, c, g, i⟩ := h
 refine y7 (J := fun n l w => ∃ (s : Int) (H : Hp) , n = c s ∧ l = [(vi s)] ∧ Inv w0 ps0 H0 H [] w ∧ d s H) ⟨_, 0, H, rfl, rfl, I, g⟩ ?_
 rintro q r w next2 ⟨A8, H, rfl, f, I, j⟩ hn2
 simp only [List.map_cons, List.map_nil, List.cons.injEq, and_true] at f
 have e5 := f
 simp only [e5]
 obtain ⟨n2, hm2, h⟩ : ∃ n2 : Int → Hp → Prop, (∀ s' H', n2 s' H' → d s' H' ∧ c s' < c A8) ∧ a1D x0 x1 A8 H n2 K := ⟨_, fun _ _ h => h, i A8 H (fun s' H' => d s' H' ∧ c s' < c A8) j (fun _ _ a b => ⟨a, b⟩)⟩
 unfold c2N
 unfold a1D at h
 refine a8 (b8y _ _ _) (a8 pLs ?_)
 refine f6 h (fun _ h => ?_) (fun _ h => ?_)
 ·obtain ⟨k, m, o, e, h⟩ := h
  obtain ⟨t, u, p, e⟩ := e
  refine a8 (b9Q p _ _ _ _ k m) (b6 (ld1 (v := (Value.string o)) Tryz.isAgg9 (I.atH e)) (a8 (Q3 _ _ _ _ _) ?_))
  refine f6 h (fun _ h => ?_) (fun _ h => ?_)
  ·exact hR _ H _ _ I ⟨A8, rfl, rfl, h⟩
  ·refine a8 pAd ?_
   exact hn2 _ _ _ (hm2 _ _ h).2 ⟨(IntKind.wrap .i64 (A8 + 1)), H, rfl, rfl, I, (hm2 _ _ h).1⟩
 ·exact hx1 _ _ (hj1 H _ I h)
def a2O (x0 : b8) (b : (List d7)) (c : (List Int)) (d : (List (List Int))) (H : Hp) (K : Int → b8 → (List d7) → (List Int) → (List (List Int)) → Hp → Prop) : Prop :=
 u0 (d5 x0) b c d H (fun j f =>
 ((!j) = true →
 K 0 (d5 x0) b c d f) ∧
 ((!j) = false →
 (x0.ftaken = (x0.fscript.n : Int) →
 K 0 (b8.mk x0.fscript x0.fleft true x0.fout (i5.mk 2 x0.fo.u1 x0.fo.s7 (Sl.mk none 0 0) (Sl.mk none 0 0) (Sl.mk none 0 0)) x0.fnames x0.flists x0.ftaken) b c d f) ∧
 (¬ (x0.ftaken = (x0.fscript.n : Int)) →
 A6 (d5 x0) b c d f (fun (k : Bool) (a : b8) (g : (List d7)) (l : (List Int)) (m : (List (List Int))) (i : Hp) =>
 ((!k) = true →
 K 0 (d5 a) g l m i) ∧
 ((!k) = false →
 (0 : Int) ≤ a.ftaken ∧ (a.ftaken : Int) < a.fscript.n ∧ ∃ e : Int, EltH i a.fscript a.ftaken 1 [(vi e)] ∧
 (g.length + ([(d7.mk true e false)] : List d7).length) * 25 ≤ 140737488355328 ∧
 K e (b8.mk a.fscript a.fleft a.fended a.fout (i5.mk a.fo.u6 a.fo.u1 a.fo.s7 (Sl.mk none 0 0) (Sl.mk none 0 0) (Sl.mk none 0 0)) a.fnames a.flists (IntKind.wrap .i64 (a.ftaken + 1))) (g ++ [(d7.mk true e false)]) l m i)))))
theorem a9j (x0 i j k) {H K} (h : a2O x0 i j k H K) : a2D x0 i j k H K := by
 intro g0 b l d m f n o p q
 refine Ct.of fun w0 w ps0 H0 R E I hR => d0q ?_
 unfold a2O at h
 unfold d3y
 refine i6 Tryz.call63 (h g0 b l d m f n o p q) ((((I.bring 3).bring 3).bring 3).bring 3) ?_
 rintro _ ad _ be ae _ _ ⟨bf, rfl, rfl, h⟩
 refine a8 (G3 _) ?_
 refine m5 h (fun _ h => ?_) (fun _ h => ?_)
 ·exact hR _ ad _ _ ((((ae.bring 3).bring 3).bring 3).bring 3) ⟨0, (d5 x0), i, j, k, b, l, d, m, f, n, rfl, rfl, o, p, q, h⟩
 ·refine U6 ae fun bg r => ?_
  refine j8 (m3 _) ?_
  refine j8 b0j ?_
  refine j8 (m3 _) ?_
  refine j8 b6s ?_
  refine u7 (l1 Tryz.isAgg3 r rfl) ?_
  refine u7 (l1 Tryz.isAgg37 r rfl) ?_
  refine j8 (a4l _ _ _) ?_
  refine j8 pEq ?_
  refine f6 h (fun _ h => ?_) (fun _ h => ?_)
  ·refine a8 (m3 _) (a8 a8K ?_)
   refine o4 r Tryz.sizeOf4 (vs := [(vB true)]) (cs' := [(vs x0.fscript), (vi x0.fleft), (vB true), (vB x0.fout), (vi x0.fo.u6), (vi x0.fo.u1), (vi x0.fo.s7), (vs b), (vs d), (vs f), (vs x0.fnames), (vs x0.flists), (vi x0.ftaken)]) rfl rfl (nb rfl) rfl rfl fun bh aq bi => ?_
   refine a8 (m3 _) (a8 O2 (a8 a5u ?_))
   refine o4 aq Tryz.sizeOf3 (vs := [(vi 2)]) (cs' := [(vs x0.fscript), (vi x0.fleft), (vB true), (vB x0.fout), (vi 2), (vi x0.fo.u1), (vi x0.fo.s7), (vs b), (vs d), (vs f), (vs x0.fnames), (vs x0.flists), (vi x0.ftaken)]) rfl rfl (nb rfl) rfl rfl fun bj ar bk => ?_
   exact hR _ ad _ _ ((((ar.bring 3).bring 3).bring 3).bring 3) ⟨0, (b8.mk x0.fscript x0.fleft true x0.fout (i5.mk 2 x0.fo.u1 x0.fo.s7 (Sl.mk none 0 0) (Sl.mk none 0 0) (Sl.mk none 0 0)) x0.fnames x0.flists x0.ftaken), i, j, k, b, l, d, m, f, n, rfl, rfl, o, p, q, h⟩
  ·refine i6 Tryz.call105 (h g0 b l d m f n o p q) ((((r.bring 3).bring 3).bring 3).bring 3) ?_
   rintro _ af _ bl ag _ _ ⟨bm, a, z, ah, ai, aa, au, t, aj, u, ak, rfl, rfl, al, am, an, h⟩
   refine a8 (G3 _) ?_
   refine m5 h (fun _ h => ?_) (fun _ h => ?_)
   ·exact hR _ af _ _ ((((ag.bring 3).bring 3).bring 3).bring 3) ⟨0, (d5 a), z, ah, ai, aa, au, t, aj, u, ak, rfl, rfl, al, am, an, h⟩
   ·refine U6 ag fun bn g => ?_
    refine j8 (m3 _) ?_
    refine j8 b6s ?_
    refine j8 (m3 _) ?_
    refine j8 b0j ?_
    refine u7 (l1 Tryz.isAgg37 g rfl) ?_
    refine u7 (l1 Tryz.isAgg3 g rfl) ?_
    obtain ⟨av, aw, y, ab, h⟩ := h
    obtain ⟨bo, bp, ax, ab⟩ := ab
    refine j8 (P4 ax _ _ _ _ av aw) ?_
    refine u7 (ld1 (v := (vi y)) Tryz.isAgg2 (g.atH ab)) ?_
    refine a8 (m3 _) (a8 b0j (b6 (l1 Tryz.isAgg3 g rfl) (a8 pAd (a8 (m3 _) ?_))))
    refine a8 b0j ?_
    refine o4 g Tryz.sizeOf3 (vs := [(vi (IntKind.wrap .i64 (a.ftaken + 1)))]) (cs' := [(vs a.fscript), (vi a.fleft), (vB a.fended), (vB a.fout), (vi a.fo.u6), (vi a.fo.u1), (vi a.fo.s7), (vs aa), (vs t), (vs u), (vs a.fnames), (vs a.flists), (vi (IntKind.wrap .i64 (a.ftaken + 1)))]) rfl rfl (nb rfl) rfl rfl fun bq ao br => ?_
    refine a8 (m3 _) (a8 O2 (a8 a3Y (b6 (l1 Tryz.isAgg39 ao rfl) (a8 (b3Z _ _) ?_))))
    refine a2l (e := 95) (c := r8) (xs := [(d7.mk true y false)]) ao (b4G _ _ _) rfl rfl a2Y a2Z (nb rfl) fun bs bt bu ay ap bv => ?_
    obtain ⟨az, h⟩ := h
    refine b6t (s := aa) (xs := z) (ap.bring 2) al (ay.srcO ((ap.bring 2).bring 1)) az fun ac ba bw bb bc bz => ?_
    refine a8 (m3 _) (a8 O2 (a8 a3Y ?_))
    refine o4 ((bc.bring 1).drop.bring 1) Tryz.sizeOf39 (vs := [(vs ac)]) (cs' := [(vs a.fscript), (vi a.fleft), (vB a.fended), (vB a.fout), (vi a.fo.u6), (vi a.fo.u1), (vi a.fo.s7), (vs ac), (vs t), (vs u), (vs a.fnames), (vs a.flists), (vi (IntKind.wrap .i64 (a.ftaken + 1)))]) rfl rfl (nb rfl) rfl rfl fun ca bd cb => ?_
    exact hR _ af _ _ ((((bd.bring 3).bring 3).bring 3).bring 3) ⟨y, (b8.mk a.fscript a.fleft a.fended a.fout (i5.mk a.fo.u6 a.fo.u1 a.fo.s7 (Sl.mk none 0 0) (Sl.mk none 0 0) (Sl.mk none 0 0)) a.fnames a.flists (IntKind.wrap .i64 (a.ftaken + 1))), (z ++ [(d7.mk true y false)]), ah, ai, ac, ba, t, aj, u, ak, rfl, rfl, bb, am, an, h⟩
def Y3 (b0n : Int) (b0J : Sl) (b0K : Int) (b0L : Bool) (b0M : Bool) (a8z : Int) (a8A : Int) (a8B : Int) (a7m : (List d7)) (a7n : (List Int)) (a7o : (List (List Int))) (b0N : Sl) (b0O : Sl) (b0P : Int) (a : m2) (H : Hp) (K : Int → b8 → (List d7) → (List Int) → (List (List Int)) → Hp → Prop) : Prop :=
 K b0n (b8.mk b0J b0K b0L b0M (i5.mk a8z a8A a8B (Sl.mk none 0 0) (Sl.mk none 0 0) (Sl.mk none 0 0)) b0N b0O b0P) a7m a7n a7o H
def E5 (a6U : Int) (a7T : Int) (T0 : Sl) (T1 : Int) (T2 : Bool) (T3 : Bool) (V0 : Int) (V1 : Int) (V2 : Int) (R9 : (List d7)) (S1 : (List Int)) (S2 : (List (List Int))) (a2b : Sl) (a2d : Sl) (a2e : Int) (c : m2) (H : Hp) (K : Int → b8 → (List d7) → (List Int) → (List (List Int)) → Hp → Prop) : Prop :=
 A6 (b8.mk T0 T1 T2 T3 (i5.mk V0 V1 V2 (Sl.mk none 0 0) (Sl.mk none 0 0) (Sl.mk none 0 0)) a2b a2d a2e) R9 S1 S2 H (fun (i : Bool) (a : b8) (d : (List d7)) (e : (List Int)) (f : (List (List Int))) (j : Hp) =>
 ((!i) = true →
 K 0 (d5 a) d e f j) ∧
 ((!i) = false →
 a3t c.b7 a6U a7T j (fun k g l =>
 (¬ (g = 0) →
 P1 (d5 a) d e f g l (fun (b : b8) (m : (List d7)) (n : (List Int)) (o : (List (List Int))) (p : Hp) =>
 Y3 k b.fscript b.fleft b.fended b.fout b.fo.u6 b.fo.u1 b.fo.s7 m n o b.fnames b.flists b.ftaken c p K)) ∧
 (g = 0 →
 Y3 k a.fscript a.fleft a.fended a.fout a.fo.u6 a.fo.u1 a.fo.s7 d e f a.fnames a.flists a.ftaken c l K))))
def a2P (x0 : b8) (f : (List d7)) (d : (List Int)) (g : (List (List Int))) (x1 : m2) (H : Hp) (K : Int → b8 → (List d7) → (List Int) → (List (List Int)) → Hp → Prop) : Prop :=
 a0P x1 H (fun ah s c =>
 (s = true →
 K ah (d5 x0) f d g c) ∧
 (s = false →
 (x1.b7 = 2 →
 L3 x0.fnames x1.d9 c (fun t ai =>
 (0 : Int) ≤ t ∧ ∃ u : Int, (d)[(t : Int).toNat]? = some u ∧
 K u (d5 x0) f d g ai)) ∧
 (¬ (x1.b7 = 2) →
 (x1.b7 = 3 →
 a2D (d5 x0) f d g c (fun (aj : Int) (ak : b8) (al : (List d7)) (am : (List Int)) (an : (List (List Int))) (ao : Hp) =>
 K aj (d5 ak) al am an ao)) ∧
 (¬ (x1.b7 = 3) →
 (x1.b7 = 4 →
 (0 : Int) ≤ 0 ∧ (0 : Int) < x1.z8.n ∧ ∃ v : m2, EltH c x1.z8 0 4 (f4 v) ∧
 B7 (d5 x0) f d g v c (fun (e : Int) (ap : b8) (aq : (List d7)) (ar : (List Int)) (au : (List (List Int))) (av : Hp) =>
 A6 (d5 ap) aq ar au av (fun (y : Bool) (i : b8) (l : (List d7)) (m : (List Int)) (j : (List (List Int))) (z : Hp) =>
 ((!y) = true →
 K 0 (d5 i) l m j z) ∧
 ((!y) = false →
 L3 i.flists x1.d9 z (fun aa ab =>
 (0 : Int) ≤ aa ∧ ∃ k : List Int, (j)[(aa : Int).toNat]? = some k ∧
 (((decide (e < 0)) || (decide ((k.length : Int) ≤ e))) = true →
 P1 (d5 i) l m j 3 ab (fun (aw : b8) (ax : (List d7)) (ay : (List Int)) (az : (List (List Int))) (ba : Hp) =>
 K 0 (d5 aw) ax ay az ba)) ∧
 (((decide (e < 0)) || (decide ((k.length : Int) ≤ e))) = false →
 (0 : Int) ≤ e ∧ ∃ ac : Int, (k)[(e : Int).toNat]? = some ac ∧
 K ac (d5 i) l m j ab)))))) ∧
 (¬ (x1.b7 = 4) →
 (0 : Int) ≤ 0 ∧ (0 : Int) < x1.z8.n ∧ ∃ ad : m2, EltH c x1.z8 0 4 (f4 ad) ∧
 B7 (d5 x0) f d g ad c (fun (ae : Int) (a : b8) (o : (List d7)) (p : (List Int)) (q : (List (List Int))) (bb : Hp) =>
 u0 (d5 a) o p q bb (fun af r =>
 ((af && (decide ((x1.z8.n : Int) = 2))) = true →
 (0 : Int) ≤ 1 ∧ (1 : Int) < x1.z8.n ∧ ∃ ag : m2, EltH r x1.z8 1 4 (f4 ag) ∧
 B7 (d5 a) o p q ag r (fun (bc : Int) (b : b8) (bd : (List d7)) (be : (List Int)) (bf : (List (List Int))) (bg : Hp) =>
 E5 ae bc b.fscript b.fleft b.fended b.fout b.fo.u6 b.fo.u1 b.fo.s7 bd be bf b.fnames b.flists b.ftaken x1 bg K)) ∧
 ((af && (decide ((x1.z8.n : Int) = 2))) = false →
 E5 ae 0 a.fscript a.fleft a.fended a.fout a.fo.u6 a.fo.u1 a.fo.s7 o p q a.fnames a.flists a.ftaken x1 r K))))))))
theorem a9k (x0 y z aa x1) {H K} (h : a2P x0 y z aa x1 H K) : B7 x0 y z aa x1 H K := by
 intro g0 n o p q r s t i u
 refine Ct.of fun w0 w ps0 H0 R E I hR => d0k ?_
 unfold a2P at h
 unfold d3s
 refine F0 I (cs := (f4 x1)) rfl fun ae gn bp go => ?_
 refine b6 (lW Tryz.isAgg53 Tryz.sizeOf53 rfl bp) ?_
 refine i6 Tryz.call141 h bp ?_
 rintro _ cn _ gp c _ _ ⟨bq, co, rfl, rfl, h⟩
 refine a8 (m8 _ _ (vi bq) rfl) (a8 (m8 _ _ (vB co) rfl) ?_)
 refine m5 h (fun _ h => ?_) (fun _ h => ?_)
 ·exact hR _ cn _ _ ((((c.drop.bring 3).bring 3).bring 3).bring 3) ⟨bq, (d5 x0), y, z, aa, n, o, p, q, r, s, rfl, rfl, t, i, u, h⟩
 ·refine a8 K8 (b6 (l1 Tryz.isAgg3 c rfl) (a8 pEq ?_))
  refine f6 h (fun _ h => ?_) (fun _ h => ?_)
  ·refine U6 c fun gq k => ?_
   refine j8 (m3 _) ?_
   refine j8 O2 ?_
   refine j8 a2s ?_
   refine j8 (m3 _) ?_
   refine j8 b3j ?_
   refine j8 a3q ?_
   refine u7 (l1 Tryz.isAgg37 (k.bring 1) rfl) ?_
   refine u7 (l1 Tryz.isAgg88 (k.bring 1) rfl) ?_
   refine u7 (l1 Tryz.isAgg9 k rfl) ?_
   refine i6 Tryz.call142 h k ?_
   rintro _ cp _ gr br _ cq ⟨gs, rfl, rfl, h⟩
   refine ⟨(cq _ (k.bring 1).lt1 (Inv.a5M (Fi := []) (k.bring 1))), ?_⟩
   obtain ⟨bs, bt, af, h⟩ := h
   obtain ⟨gt, gu, bu, gv⟩ := i.addr af
   refine j8 (P4 bu _ _ _ _ bs (i.lt bs af)) ?_
   refine u7 (ld1 (v := (vi bt)) Tryz.isAgg2 (i.atW (br.bring 3) bu af)) ?_
   exact hR _ cp _ _ ((((br.drop.bring 3).bring 3).bring 3).bring 3) ⟨bt, (d5 x0), y, z, aa, n, o, p, q, r, s, rfl, rfl, t, i, u, h⟩
  ·refine a8 pEq ?_
   refine f6 h (fun _ h => ?_) (fun _ h => ?_)
   ·refine i6 Tryz.call161 (h g0 n o p q r s t i u) ((((c.bring 4).bring 4).bring 4).bring 4) ?_
    rintro _ cr _ gw ct _ _ ⟨cu, cv, cw, cx, cy, cz, da, db, dc, dd, de, rfl, rfl, df, dg, dh, h⟩
    exact hR _ cr _ _ (((((ct.bring 4).drop.bring 3).bring 3).bring 3).bring 3) ⟨cu, (d5 cv), cw, cx, cy, cz, da, db, dc, dd, de, rfl, rfl, df, dg, dh, h⟩
   ·refine a8 pEq ?_
    refine f6 h (fun _ h => ?_) (fun _ h => ?_)
    ·refine a8 P5 (b6 (l1 Tryz.isAgg51 c rfl) ?_)
     obtain ⟨di, dj, dk, ag, h⟩ := h
     obtain ⟨gx, gy, dl, ag⟩ := ag
     refine a8 (K9 dl _ _ _ _ di dj) (b6 (ldA (vs := (f4 dk)) Tryz.isAgg53 Tryz.sizeOf53 rfl (c.atH ag)) ?_)
     refine i6 Tryz.call140 (h g0 n o p q r s t i u) ((((c.bring 4).bring 4).bring 4).bring 4) ?_
     rintro _ _ _ gz dm _ _ ⟨ha, hc, hd, he, hf, dn, dp, dq, dr, ds, dt, rfl, rfl, du, dv, dw, h⟩
     refine i6 Tryz.call105 (h g0 dn dp dq dr ds dt du dv dw) ((((dm.bring 3).bring 3).bring 3).bring 3) ?_
     rintro _ dx _ hg bv _ _ ⟨hh, bw, bz, ca, cb, ah, ai, aj, ak, al, am, rfl, rfl, an, ao, ab, h⟩
     refine a8 (G3 _) ?_
     refine m5 h (fun _ h => ?_) (fun _ h => ?_)
     ·exact hR _ dx _ _ (((((bv.bring 4).drop.bring 3).bring 3).bring 3).bring 3) ⟨0, (d5 bw), bz, ca, cb, ah, ai, aj, ak, al, am, rfl, rfl, an, ao, ab, h⟩
     ·refine U6 bv fun hi l => ?_
      refine j8 (m3 _) ?_
      refine j8 O2 ?_
      refine j8 a0j ?_
      refine j8 (m3 _) ?_
      refine j8 b0i ?_
      refine j8 a3q ?_
      refine u7 (l1 Tryz.isAgg40 l rfl) ?_
      refine u7 (l1 Tryz.isAgg88 l rfl) ?_
      refine u7 (l1 Tryz.isAgg9 (l.bring 4) rfl) ?_
      refine i6 Tryz.call142 h l ?_
      rintro _ dy _ hj dz _ ea ⟨hk, rfl, rfl, h⟩
      refine ⟨(ea _ l.lt1 (Inv.a5M (Fi := []) l)), ?_⟩
      obtain ⟨cc, hl, eb, h⟩ := h
      obtain ⟨hm, ec, hn, ho, hp, ap, aq, m, hq, cd, ac⟩ := RowsL.open_ ab (dz.bring 3) eb
      obtain ⟨hr, hs, ce, ht⟩ := ap.addr aq
      refine j8 (a9q ce _ _ _ _ cc (ap.lt cc aq)) ?_
      refine u7 (ld1 (v := (vs ec)) Tryz.isAgg37 (ap.atW ac ce aq)) ?_
      refine a8 pLs ?_
      simp only [t8]
      refine a8 (Pu.g fun a => by simp only [g7 a]; exact (a6Y Tryz.underlying37 m)) ?_
      refine a8 (Pu.g fun a => by simp only [g7 a]; exact pGe) ?_
      refine a8 (E8 _ _) ?_
      refine m5 h (fun _ h => ?_) (fun _ h => ?_)
      ·refine i6 Tryz.call109 (h g0 ah ai aj ak al am an ao ab) (((((((ac.bring 2).bring 2).bring 2).b6m.permF cd).bring 3).bring 3).bring 3) ?_
       rintro _ ed _ hu ee _ _ ⟨ef, eg, eh, ei, ej, ek, el, em, en, eo, rfl, rfl, ep, eq, er, h⟩
       exact hR _ ed _ _ (((((ee.bring 4).drop.bring 3).bring 3).bring 3).bring 3) ⟨0, (d5 ef), eg, eh, ei, ej, ek, el, em, en, eo, rfl, rfl, ep, eq, er, h⟩
      ·obtain ⟨cf, cg, ar, h⟩ := h
       obtain ⟨hv, hw, ch, hx⟩ := m.addr ar
       refine a8 (P4 ch _ _ _ _ cf (m.lt cf ar)) (b6 (ld1 (v := (vi cg)) Tryz.isAgg2 (m.atW (ac.bring 1) ch ar)) ?_)
       exact hR _ dy _ _ ((((((((ac.bring 2).bring 2).bring 2).b6m.permF cd).bring 4).drop.bring 3).bring 3).bring 3) ⟨cg, (d5 bw), bz, ca, cb, ah, ai, aj, ak, al, am, rfl, rfl, an, ao, ab, h⟩
    ·refine a8 P5 (b6 (l1 Tryz.isAgg51 c rfl) ?_)
     obtain ⟨es, et, eu, au, h⟩ := h
     obtain ⟨hy, hz, ev, au⟩ := au
     refine a8 (K9 ev _ _ _ _ es et) (b6 (ldA (vs := (f4 eu)) Tryz.isAgg53 Tryz.sizeOf53 rfl (c.atH au)) ?_)
     refine i6 Tryz.call140 (h g0 n o p q r s t i u) ((((c.bring 4).bring 4).bring 4).bring 4) ?_
     rintro _ _ _ ia ew _ _ ⟨ci, d, ex, ey, ez, av, aw, ax, ay, az, ba, rfl, rfl, bb, bc, bd, h⟩
     have hj1 : ∀ (a7T : Int) (T0 : Sl) (T1 : Int) (T2 : Bool) (T3 : Bool) (V0 : Int) (V1 : Int) (V2 : Int) (R9 : (List d7)) (S1 : (List Int)) (S2 : (List (List Int))) (a2b : Sl) (a2d : Sl) (a2e : Int) (a0p : Sl) (a0q : Frag) (a0r : Sl) (a0s : Frag) (a0t : Sl) (a0u : Frag) (H : Hp) (w : World) (_ : RowL 95 3 r8 a0p R9 a0q) (_ : RowL 2 1 t6 a0r S1 a0s) (_ : RowsL 37 2 1 t6 a0t S2 a0u) (_ : Inv w0 ps0 H0 H [bx g0 91 [(vs T0), (vi T1), (vB T2), (vB T3), (vi V0), (vi V1), (vi V2), (vs a0p), (vs a0r), (vs a0t), (vs a2b), (vs a2d), (vi a2e)], bx ae 53 (f4 x1), a0q, a0s, a0u] w) (_ : E5 ci a7T T0 T1 T2 T3 V0 V1 V2 R9 S1 S2 a2b a2d a2e x1 H K), b8i (Value.pointer (some ⟨g0, 0, none⟩)) (Value.pointer (some ⟨ae, 0, none⟩)) (vi ci) (vi a7T) w R E := by
      intro a7T T0 T1 T2 T3 V0 V1 V2 R9 S1 S2 a2b a2d a2e a0p a0q a0r a0s a0t a0u H w a8U a8V a8W I h
      unfold b8i
      intro _
      unfold E5 at h
      refine i6 Tryz.call105 (h g0 a0p a0q a0r a0s a0t a0u a8U a8V a8W) ((((I.bring 4).bring 4).bring 4).bring 3) ?_
      rintro _ fa _ ib be _ _ ⟨ic, b, cj, ck, cl, bf, bg, bh, bi, bj, bk, rfl, rfl, bl, bm, bn, h⟩
      refine a8 (G3 _) ?_
      refine m5 h (fun _ h => ?_) (fun _ h => ?_)
      ·exact hR _ fa _ _ (((((be.bring 4).drop.bring 3).bring 3).bring 3).bring 3) ⟨0, (d5 b), cj, ck, cl, bf, bg, bh, bi, bj, bk, rfl, rfl, bl, bm, bn, h⟩
      ·refine a8 K8 (b6 (l1 Tryz.isAgg3 (be.bring 4) rfl) ?_)
       refine i6 Tryz.call98 h be ?_
       rintro _ fb _ id cm _ _ ⟨ad, fc, rfl, rfl, h⟩
       refine a8 (m8 _ _ (vi ad) rfl) (a8 (m8 _ _ (vi fc) rfl) ?_)
       have hj2 : ∀ (b0J : Sl) (b0K : Int) (b0L : Bool) (b0M : Bool) (a8z : Int) (a8A : Int) (a8B : Int) (a7m : (List d7)) (a7n : (List Int)) (a7o : (List (List Int))) (b0N : Sl) (b0O : Sl) (b0P : Int) (b0v : Sl) (b0w : Frag) (b0x : Sl) (b0y : Frag) (b0z : Sl) (b0A : Frag) (H : Hp) (w : World) (_ : RowL 95 3 r8 b0v a7m b0w) (_ : RowL 2 1 t6 b0x a7n b0y) (_ : RowsL 37 2 1 t6 b0z a7o b0A) (_ : Inv w0 ps0 H0 H [bx g0 91 [(vs b0J), (vi b0K), (vB b0L), (vB b0M), (vi a8z), (vi a8A), (vi a8B), (vs b0v), (vs b0x), (vs b0z), (vs b0N), (vs b0O), (vi b0P)], bx ae 53 (f4 x1), b0w, b0y, b0A] w) (_ : Y3 ad b0J b0K b0L b0M a8z a8A a8B a7m a7n a7o b0N b0O b0P x1 H K), b8h (vi ad) w R E := by
        intro b0J b0K b0L b0M a8z a8A a8B a7m a7n a7o b0N b0O b0P b0v b0w b0x b0y b0z b0A H w c3X c3Y c3Z I h
        unfold b8h
        intro _
        unfold Y3 at h
        exact hR _ H _ _ (((((I.bring 1).drop.bring 3).bring 3).bring 3).bring 3) ⟨ad, (b8.mk b0J b0K b0L b0M (i5.mk a8z a8A a8B (Sl.mk none 0 0) (Sl.mk none 0 0) (Sl.mk none 0 0)) b0N b0O b0P), a7m, a7n, a7o, b0v, b0w, b0x, b0y, b0z, b0A, rfl, rfl, c3X, c3Y, c3Z, h⟩
       refine r5 fun j2 hx2 => ?_
       refine a8 pNe ?_
       refine a1v h (fun _ h => ?_) (fun _ h => ?_)
       ·refine i6 Tryz.call109 (h g0 bf bg bh bi bj bk bl bm bn) ((((cm.bring 3).bring 3).bring 3).bring 3) ?_
        rintro _ fd _ ie fe _ _ ⟨e, ff, fg, fh, fi, fj, fk, fl, fm, fn, rfl, rfl, fp, fq, fs, h⟩
        exact hx2 _ _ (hj2 e.fscript e.fleft e.fended e.fout e.fo.u6 e.fo.u1 e.fo.s7 ff fg fh e.fnames e.flists e.ftaken fi fj fk fl fm fn fd _ fp fq fs (((((fe.bring 3).bring 3).bring 3).bring 4).bring 4) h)
       ·exact hx2 _ _ (hj2 b.fscript b.fleft b.fended b.fout b.fo.u6 b.fo.u1 b.fo.s7 cj ck cl b.fnames b.flists b.ftaken bf bg bh bi bj bk fb _ bl bm bn (((((cm.bring 3).bring 3).bring 3).bring 4).bring 4) h)
     refine r5 fun j1 hx1 => ?_
     refine i6 Tryz.call63 (h g0 av aw ax ay az ba bb bc bd) ((((ew.bring 3).bring 3).bring 3).bring 3) ?_
     rintro _ ft _ ig j _ _ ⟨ih, rfl, rfl, h⟩
     refine a8 (Pu.g fun a => by exact P5) ?_
     refine b6 (Ld.g fun a => by simp only [g7 a]; exact (l1 Tryz.isAgg51 (j.bring 4) rfl)) ?_
     refine a8 (Pu.g fun a => by simp only [g7 a]; exact (P9 _ _ _)) ?_
     refine a8 (Pu.g fun a => by simp only [g7 a]; exact pEq) ?_
     refine a8 (v7 _ _) ?_
     refine m5 h (fun _ h => ?_) (fun _ h => ?_)
     ·refine a8 P5 (b6 (l1 Tryz.isAgg51 (j.bring 4) rfl) ?_)
      obtain ⟨fu, fv, fw, bo, h⟩ := h
      obtain ⟨ii, ij, fx, bo⟩ := bo
      refine a8 (K9 fx _ _ _ _ fu fv) (b6 (ldA (vs := (f4 fw)) Tryz.isAgg53 Tryz.sizeOf53 rfl (j.atH bo)) ?_)
      refine i6 Tryz.call140 (h g0 av aw ax ay az ba bb bc bd) ((((j.bring 3).bring 3).bring 3).bring 3) ?_
      rintro _ fy _ ik fz _ _ ⟨ga, f, gb, gc, gd, ge, gf, gg, gh, gi, gj, rfl, rfl, gk, gl, gm, h⟩
      exact hx1 _ _ (hj1 ga f.fscript f.fleft f.fended f.fout f.fo.u6 f.fo.u1 f.fo.s7 gb gc gd f.fnames f.flists f.ftaken ge gf gg gh gi gj fy _ gk gl gm (((((fz.bring 3).bring 3).bring 3).bring 4).bring 4) h)
     ·exact hx1 _ _ (hj1 0 d.fscript d.fleft d.fended d.fout d.fo.u6 d.fo.u1 d.fo.s7 ex ey ez d.fnames d.flists d.ftaken av aw ax ay az ba ft _ bb bc bd (((((j.bring 3).bring 3).bring 3).bring 4).bring 4) h)
def E6 (U7 : Int) (b4u : Int) (T0 : Sl) (T1 : Int) (T2 : Bool) (T3 : Bool) (V0 : Int) (V1 : Int) (V2 : Int) (R9 : (List d7)) (S1 : (List Int)) (S2 : (List (List Int))) (a2b : Sl) (a2d : Sl) (a2e : Int) (c : o0) (H : Hp) (K : Bool → b8 → (List d7) → (List Int) → (List (List Int)) → Hp → Prop) : Prop :=
 A6 (b8.mk T0 T1 T2 T3 (i5.mk V0 V1 V2 (Sl.mk none 0 0) (Sl.mk none 0 0) (Sl.mk none 0 0)) a2b a2d a2e) R9 S1 S2 H (fun (a : Bool) (d : b8) (e : (List d7)) (f : (List Int)) (g : (List (List Int))) (b : Hp) =>
 TG (a = true) (a4U c.fOp U7 b4u b) false b (fun (i : Bool) (j : Hp) =>
 K (a && i) (d5 d) e f g j))
def a2Q (x0 : b8) (e : (List d7)) (f : (List Int)) (g : (List (List Int))) (x1 : o0) (H : Hp) (K : Bool → b8 → (List d7) → (List Int) → (List (List Int)) → Hp → Prop) : Prop :=
 (x1.b7 = 1 →
 A6 (d5 x0) e f g H (fun (ao : Bool) (ap : b8) (aq : (List d7)) (ar : (List Int)) (au : (List (List Int))) (av : Hp) =>
 K ao (d5 ap) aq ar au av)) ∧
 (¬ (x1.b7 = 1) →
 (x1.b7 = 2 →
 A6 (d5 x0) e f g H (fun (cb : Bool) (aw : b8) (ax : (List d7)) (ay : (List Int)) (az : (List (List Int))) (ba : Hp) =>
 K false (d5 aw) ax ay az ba)) ∧
 (¬ (x1.b7 = 2) →
 (x1.b7 = 4 →
 (0 : Int) ≤ 0 ∧ (0 : Int) < x1.v8.n ∧ ∃ ad : o0, EltH H x1.v8 0 4 (h9 ad) ∧
 A0 (d5 x0) e f g ad H (fun (bb : Bool) (bc : b8) (bd : (List d7)) (be : (List Int)) (bf : (List (List Int))) (bg : Hp) =>
 K (!bb) (d5 bc) bd be bf bg)) ∧
 (¬ (x1.b7 = 4) →
 (x1.b7 = 5 →
 (0 : Int) ≤ 0 ∧ (0 : Int) < x1.v8.n ∧ ∃ ae : o0, EltH H x1.v8 0 4 (h9 ae) ∧
 A0 (d5 x0) e f g ae H (fun (i : Bool) (k : b8) (l : (List d7)) (m : (List Int)) (o : (List (List Int))) (af : Hp) =>
 TG (i = true) (u0 (d5 k) l m o af) false af (fun (p : Bool) (q : Hp) =>
 ∃ ag : o0, ((i && p) = true → (0 : Int) ≤ 1 ∧ (1 : Int) < x1.v8.n ∧ EltH q x1.v8 1 4 (h9 ag)) ∧
 TG ((i && p) = true) (fun k_ => A0 (d5 k) l m o ag q fun bh bi bj bk bl H_ => k_ (bh, bi, bj, bk, bl) H_) (false, (d5 k), l, m, o) q (fun (a : Bool × b8 × (List d7) × (List Int) × (List (List Int))) (bm : Hp) =>
 K ((i && p) && a.1) (b8.mk (a.2.1.fscript) (a.2.1.fleft) (a.2.1.fended) (a.2.1.fout) (i5.mk (a.2.1.fo.u6) (a.2.1.fo.u1) (a.2.1.fo.s7) (Sl.mk none 0 0) (Sl.mk none 0 0) (Sl.mk none 0 0)) (a.2.1.fnames) (a.2.1.flists) (a.2.1.ftaken)) a.2.2.1 a.2.2.2.1 a.2.2.2.2 bm)))) ∧
 (¬ (x1.b7 = 5) →
 (x1.b7 = 6 →
 (0 : Int) ≤ 0 ∧ (0 : Int) < x1.v8.n ∧ ∃ ah : o0, EltH H x1.v8 0 4 (h9 ah) ∧
 A0 (d5 x0) e f g ah H (fun (j : Bool) (r : b8) (s : (List d7)) (t : (List Int)) (u : (List (List Int))) (ai : Hp) =>
 TG (j = false) (u0 (d5 r) s t u ai) false ai (fun (v : Bool) (y : Hp) =>
 ∃ aj : o0, ((!j && v) = true → (0 : Int) ≤ 1 ∧ (1 : Int) < x1.v8.n ∧ EltH y x1.v8 1 4 (h9 aj)) ∧
 TG ((!j && v) = true) (fun k_ => A0 (d5 r) s t u aj y fun bn bo bp bq br H_ => k_ (bn, bo, bp, bq, br) H_) (false, (d5 r), s, t, u) y (fun (b : Bool × b8 × (List d7) × (List Int) × (List (List Int))) (bs : Hp) =>
 K (j || (v && b.1)) (b8.mk (b.2.1.fscript) (b.2.1.fleft) (b.2.1.fended) (b.2.1.fout) (i5.mk (b.2.1.fo.u6) (b.2.1.fo.u1) (b.2.1.fo.s7) (Sl.mk none 0 0) (Sl.mk none 0 0) (Sl.mk none 0 0)) (b.2.1.fnames) (b.2.1.flists) (b.2.1.ftaken)) b.2.2.1 b.2.2.2.1 b.2.2.2.2 bs)))) ∧
 (¬ (x1.b7 = 6) →
 (0 : Int) ≤ 0 ∧ (0 : Int) < x1.m6.n ∧ ∃ ak : m2, EltH H x1.m6 0 4 (f4 ak) ∧
 B7 (d5 x0) e f g ak H (fun (al : Int) (c : b8) (z : (List d7)) (aa : (List Int)) (ab : (List (List Int))) (bt : Hp) =>
 u0 (d5 c) z aa ab bt (fun am ac =>
 (am = true →
 (0 : Int) ≤ 1 ∧ (1 : Int) < x1.m6.n ∧ ∃ an : m2, EltH ac x1.m6 1 4 (f4 an) ∧
 B7 (d5 c) z aa ab an ac (fun (bu : Int) (d : b8) (bv : (List d7)) (bw : (List Int)) (bz : (List (List Int))) (ca : Hp) =>
 E6 al bu d.fscript d.fleft d.fended d.fout d.fo.u6 d.fo.u1 d.fo.s7 bv bw bz d.fnames d.flists d.ftaken x1 ca K)) ∧
 (am = false →
 E6 al 0 c.fscript c.fleft c.fended c.fout c.fo.u6 c.fo.u1 c.fo.s7 z aa ab c.fnames c.flists c.ftaken x1 ac K))))))))
theorem a9l (x0 ed ee ef x1) {H K} (h : a2Q x0 ed ee ef x1 H K) : A0 x0 ed ee ef x1 H K := by
 intro g0 au av aw ax ay az ba bb bc
 refine Ct.of fun w0 w ps0 H0 R E I hR => d0b ?_
 unfold a2Q at h
 unfold d3j
 refine F0 I (cs := (h9 x1)) rfl fun ai jg d jh => ?_
 refine a8 a5Z (b6 (l1 Tryz.isAgg3 d rfl) (a8 pEq ?_))
 refine f6 h (fun _ h => ?_) (fun _ h => ?_)
 ·refine i6 Tryz.call105 (h g0 au av aw ax ay az ba bb bc) ((((d.bring 4).bring 4).bring 4).bring 4) ?_
  rintro _ fn _ ji fp _ _ ⟨fq, fs, ft, fu, fv, fw, fx, fy, fz, ga, gb, rfl, rfl, gc, gd, ge, h⟩
  exact hR _ fn _ _ (((((fp.bring 4).drop.bring 3).bring 3).bring 3).bring 3) ⟨fq, (d5 fs), ft, fu, fv, fw, fx, fy, fz, ga, gb, rfl, rfl, gc, gd, ge, h⟩
 ·refine a8 pEq ?_
  refine f6 h (fun _ h => ?_) (fun _ h => ?_)
  ·refine i6 Tryz.call105 (h g0 au av aw ax ay az ba bb bc) ((((d.bring 4).bring 4).bring 4).bring 4) ?_
   rintro _ gf _ jj gg _ _ ⟨jk, gh, gi, gj, gk, gl, gm, gn, go, gp, gq, rfl, rfl, gr, gs, gt, h⟩
   exact hR _ gf _ _ (((((gg.bring 4).drop.bring 3).bring 3).bring 3).bring 3) ⟨false, (d5 gh), gi, gj, gk, gl, gm, gn, go, gp, gq, rfl, rfl, gr, gs, gt, h⟩
  ·refine a8 pEq ?_
   refine f6 h (fun _ h => ?_) (fun _ h => ?_)
   ·refine a8 O3 (b6 (l1 Tryz.isAgg57 d rfl) ?_)
    obtain ⟨gu, gw, gx, co, h⟩ := h
    obtain ⟨jl, jm, gy, co⟩ := co
    refine a8 (P6 gy _ _ _ _ gu gw) (b6 (ldA (vs := (h9 gx)) Tryz.isAgg59 Tryz.sizeOf59 rfl (d.atH co)) ?_)
    refine i6 Tryz.call108 (h g0 au av aw ax ay az ba bb bc) ((((d.bring 4).bring 4).bring 4).bring 4) ?_
    rintro _ gz _ jn ha _ _ ⟨hc, hd, he, hf, hg, hh, hi, hj, hk, hl, hm, rfl, rfl, hn, ho, hp, h⟩
    refine a8 (G3 _) ?_
    exact hR _ gz _ _ (((((ha.bring 4).drop.bring 3).bring 3).bring 3).bring 3) ⟨(!hc), (d5 hd), he, hf, hg, hh, hi, hj, hk, hl, hm, rfl, rfl, hn, ho, hp, h⟩
   ·refine a8 pEq ?_
    refine G4 (fun cp => ?_) (fun cp => ?_)
    ·replace h := h.1 cp
     refine a8 O3 (b6 (l1 Tryz.isAgg57 d rfl) ?_)
     obtain ⟨hq, hr, hs, cq, h⟩ := h
     obtain ⟨jo, jp, ht, cq⟩ := cq
     refine a8 (P6 ht _ _ _ _ hq hr) (b6 (ldA (vs := (h9 hs)) Tryz.isAgg59 Tryz.sizeOf59 rfl (d.atH cq)) ?_)
     refine i6 Tryz.call108 (h g0 au av aw ax ay az ba bb bc) ((((d.bring 4).bring 4).bring 4).bring 4) ?_
     rintro _ eg _ eh ei _ _ ⟨aj, bd, cr, ct, cu, be, bf, bg, bh, bi, bj, rfl, rfl, cv, cw, cx, h⟩
     simp only [t8]
     refine a0i (D := fun ej bk => ∃ (m : Bool) (o : Hp) , ej = (gv aj true (vB m)) ∧ (Inv w0 ps0 H0 o [bx g0 91 (p9 bd be bg bi), bf, bh, bj, bx ai 59 (h9 x1)] bk) ∧ (∀ i, i < eh.heap.size → ¬ inF [bx g0 91 (p9 bd be bg bi), bf, bh, bj] i → bk.heap[i]? = eh.heap[i]?) ∧ Hle eg o ∧ (∃ bl : o0, ((aj && m) = true → (0 : Int) ≤ 1 ∧ (1 : Int) < x1.v8.n ∧ EltH o x1.v8 1 4 (h9 bl)) ∧
 TG ((aj && m) = true) (fun k_ => A0 (d5 bd) cr ct cu bl o fun y z aa ab ac H_ => k_ (y, z, aa, ab, ac) H_) (false, (d5 bd), cr, ct, cu) o (fun (f : Bool × b8 × (List d7) × (List Int) × (List (List Int))) (u : Hp) =>
 K ((aj && m) && f.1) (b8.mk (f.2.1.fscript) (f.2.1.fleft) (f.2.1.fended) (f.2.1.fout) (i5.mk (f.2.1.fo.u6) (f.2.1.fo.u1) (f.2.1.fo.s7) (Sl.mk none 0 0) (Sl.mk none 0 0) (Sl.mk none 0 0)) (f.2.1.fnames) (f.2.1.flists) (f.2.1.ftaken)) f.2.2.1 f.2.2.2.1 f.2.2.2.2 u))) (fun ak => ?_) (fun ak => ?_) ?_
     ·replace h := h.1 ak
      have a := ak
      simp only [g7 a]
      refine i6 Tryz.call63 (h g0 be bf bg bh bi bj cv cw cx) ((((ei.bring 3).bring 3).bring 3).bring 3) ?_
      rintro _ o _ bk p ek el ⟨m, rfl, rfl, h⟩
      exact ⟨m, o, by rfl, p, el, ek, h⟩
     ·exact ⟨false, eg, by rw [a3E ak], ((((ei.bring 3).bring 3).bring 3).bring 3), fun _ _ _ => rfl, Hle.refl _, h.2 ak⟩
     ·clear h
      rintro ej bk ⟨m, o, rfl, p, el, ek, h⟩
      refine a8 (v7 _ _) ?_
      simp only [t8]
      refine a8 (Pu.g fun a => by exact O3) ?_
      refine b6 (Ld.g fun a => by simp only [g7 a]; exact (l1 Tryz.isAgg57 (p.bring 4) rfl)) ?_
      obtain ⟨bl, j, h⟩ := h
      obtain ⟨jq, jr, j⟩ := b3d j
      refine a8 (Pu.g fun hb => by have a := hb; simp only [g7 a]; exact (P6 (j hb).2.2.1 _ _ _ _ (j hb).1 (j hb).2.1)) ?_
      refine b6 (Ld.g fun hb => by have a := hb; simp only [g7 a]; exact (ldA (vs := (h9 bl)) Tryz.isAgg59 Tryz.sizeOf59 rfl (p.atH (j hb).2.2.2))) ?_
      refine a0i (D := fun em ck => ∃ (y : Bool) (z : b8) (aa : (List d7)) (ab : (List Int)) (ac : (List (List Int))) (u : Hp) (bm : Sl) (bn : Frag) (bo : Sl) (bp : Frag) (bq : Sl) (br : Frag) , em = (gv (aj && m) true (vB y)) ∧ (RowL 95 3 r8 bm aa bn) ∧ (RowL 2 1 t6 bo ab bp) ∧ (RowsL 37 2 1 t6 bq ac br) ∧ (Inv w0 ps0 H0 u [bx g0 91 (p9 z bm bo bq), bn, bp, br, bx ai 59 (h9 x1)] ck) ∧ (∀ i, i < bk.heap.size → ¬ inF [bx g0 91 (p9 bd be bg bi), bf, bh, bj] i → ck.heap[i]? = bk.heap[i]?) ∧ Hle o u ∧ (K ((aj && m) && y) (d5 z) aa ab ac u)) (fun al => ?_) (fun al => ?_) ?_
      ·replace h := h.1 al
       have a := al
       simp only [g7 a]
       refine i6 Tryz.call108 (h g0 be bf bg bh bi bj cv cw cx) ((((p.bring 3).bring 3).bring 3).bring 3) ?_
       rintro _ u _ ck cy en eo ⟨y, z, aa, ab, ac, bm, bn, bo, bp, bq, br, rfl, rfl, cz, da, db, h⟩
       exact ⟨y, z, aa, ab, ac, u, bm, bn, bo, bp, bq, br, by rfl, cz, da, db, cy, eo, en, h⟩
      ·exact ⟨false, (d5 bd), cr, ct, cu, o, be, bf, bg, bh, bi, bj, by rw [a3E al], cv, cw, cx, ((((p.bring 3).bring 3).bring 3).bring 3), fun _ _ _ => rfl, Hle.refl _, h.2 al⟩
      ·clear h
       rintro em ck ⟨y, z, aa, ab, ac, u, bm, bn, bo, bp, bq, br, rfl, cz, da, db, cy, eo, en, h⟩
       refine a8 (v7 _ _) ?_
       exact hR _ u _ _ (((((cy.bring 4).drop.bring 3).bring 3).bring 3).bring 3) ⟨((aj && m) && y), (d5 z), aa, ab, ac, bm, bn, bo, bp, bq, br, rfl, rfl, cz, da, db, h⟩
    ·replace h := h.2 cp
     refine a8 pEq ?_
     refine G4 (fun dc => ?_) (fun dc => ?_)
     ·replace h := h.1 dc
      refine a8 O3 (b6 (l1 Tryz.isAgg57 d rfl) ?_)
      obtain ⟨hu, hv, hw, dd, h⟩ := h
      obtain ⟨js, jt, hx, dd⟩ := dd
      refine a8 (P6 hx _ _ _ _ hu hv) (b6 (ldA (vs := (h9 hw)) Tryz.isAgg59 Tryz.sizeOf59 rfl (d.atH dd)) ?_)
      refine i6 Tryz.call108 (h g0 au av aw ax ay az ba bb bc) ((((d.bring 4).bring 4).bring 4).bring 4) ?_
      rintro _ ep _ eq er _ _ ⟨am, bs, de, df, dg, bt, bu, bv, bw, bz, ca, rfl, rfl, dh, di, dj, h⟩
      simp only [t8]
      refine a0i (D := fun es cb => ∃ (q : Bool) (r : Hp) , es = (gv am false (vB q)) ∧ (Inv w0 ps0 H0 r [bx g0 91 (p9 bs bt bv bz), bu, bw, ca, bx ai 59 (h9 x1)] cb) ∧ (∀ i, i < eq.heap.size → ¬ inF [bx g0 91 (p9 bs bt bv bz), bu, bw, ca] i → cb.heap[i]? = eq.heap[i]?) ∧ Hle ep r ∧ (∃ an : o0, ((!am && q) = true → (0 : Int) ≤ 1 ∧ (1 : Int) < x1.v8.n ∧ EltH r x1.v8 1 4 (h9 an)) ∧
 TG ((!am && q) = true) (fun k_ => A0 (d5 bs) de df dg an r fun ad ae af ag ah H_ => k_ (ad, ae, af, ag, ah) H_) (false, (d5 bs), de, df, dg) r (fun (k : Bool × b8 × (List d7) × (List Int) × (List (List Int))) (v : Hp) =>
 K (am || (q && k.1)) (b8.mk (k.2.1.fscript) (k.2.1.fleft) (k.2.1.fended) (k.2.1.fout) (i5.mk (k.2.1.fo.u6) (k.2.1.fo.u1) (k.2.1.fo.s7) (Sl.mk none 0 0) (Sl.mk none 0 0) (Sl.mk none 0 0)) (k.2.1.fnames) (k.2.1.flists) (k.2.1.ftaken)) k.2.2.1 k.2.2.2.1 k.2.2.2.2 v))) (fun ao => ?_) (fun ao => ?_) ?_
      ·replace h := h.1 ao
       have a := ao
       simp only [g7 a]
       refine i6 Tryz.call63 (h g0 bt bu bv bw bz ca dh di dj) ((((er.bring 3).bring 3).bring 3).bring 3) ?_
       rintro _ r _ cb l et eu ⟨q, rfl, rfl, h⟩
       exact ⟨q, r, by rfl, l, eu, et, h⟩
      ·exact ⟨false, ep, by rw [a3E ao], ((((er.bring 3).bring 3).bring 3).bring 3), fun _ _ _ => rfl, Hle.refl _, h.2 ao⟩
      ·clear h
       rintro es cb ⟨q, r, rfl, l, eu, et, h⟩
       simp only [a5t, a8I]
       refine a8 (Pu.e (a0f _ _ _) (Pu.g fun hb => by obtain ⟨a, b⟩ := a2T hb; exact O3)) ?_
       refine b6 (Ld.e (a0f _ _ _) (Ld.g fun hb => by obtain ⟨a, b⟩ := a2T hb; simp only [g7 hb]; exact (l1 Tryz.isAgg57 (l.bring 4) rfl))) ?_
       obtain ⟨an, c, h⟩ := h
       obtain ⟨ju, jv, c⟩ := b3d c
       refine a8 (Pu.e (a0f _ _ _) (Pu.g fun hb => by obtain ⟨a, b⟩ := a2T hb; simp only [g7 hb]; exact (P6 (c hb).2.2.1 _ _ _ _ (c hb).1 (c hb).2.1))) ?_
       refine b6 (Ld.e (a0f _ _ _) (Ld.g fun hb => by obtain ⟨a, b⟩ := a2T hb; simp only [g7 hb]; exact (ldA (vs := (h9 an)) Tryz.isAgg59 Tryz.sizeOf59 rfl (l.atH (c hb).2.2.2)))) ?_
       refine b0f (a0f _ _ _) ?_
       refine a0i (D := fun ev cl => ∃ (ad : Bool) (ae : b8) (af : (List d7)) (ag : (List Int)) (ah : (List (List Int))) (v : Hp) (cc : Sl) (cd : Frag) (ce : Sl) (cf : Frag) (cg : Sl) (ch : Frag) , ev = (gv (!am && q) true (vB ad)) ∧ (RowL 95 3 r8 cc af cd) ∧ (RowL 2 1 t6 ce ag cf) ∧ (RowsL 37 2 1 t6 cg ah ch) ∧ (Inv w0 ps0 H0 v [bx g0 91 (p9 ae cc ce cg), cd, cf, ch, bx ai 59 (h9 x1)] cl) ∧ (∀ i, i < cb.heap.size → ¬ inF [bx g0 91 (p9 bs bt bv bz), bu, bw, ca] i → cl.heap[i]? = cb.heap[i]?) ∧ Hle r v ∧ (K (am || (q && ad)) (d5 ae) af ag ah v)) (fun ap => ?_) (fun ap => ?_) ?_
       ·replace h := h.1 ap
        obtain ⟨a, b⟩ := a2T ap
        simp only [g7 ap]
        refine i6 Tryz.call108 (h g0 bt bu bv bw bz ca dh di dj) ((((l.bring 3).bring 3).bring 3).bring 3) ?_
        rintro _ v _ cl dk ew ex ⟨ad, ae, af, ag, ah, cc, cd, ce, cf, cg, ch, rfl, rfl, dl, dm, dn, h⟩
        exact ⟨ad, ae, af, ag, ah, v, cc, cd, ce, cf, cg, ch, by rfl, dl, dm, dn, dk, ex, ew, h⟩
       ·exact ⟨false, (d5 bs), de, df, dg, r, bt, bu, bv, bw, bz, ca, by rw [a3E ap], dh, di, dj, ((((l.bring 3).bring 3).bring 3).bring 3), fun _ _ _ => rfl, Hle.refl _, h.2 ap⟩
       ·clear h
        rintro ev cl ⟨ad, ae, af, ag, ah, v, cc, cd, ce, cf, cg, ch, rfl, dl, dm, dn, dk, ex, ew, h⟩
        refine a8 (Pu.g fun a => by simp only [g7 a, a7O a]; exact (v7 _ _)) ?_
        refine a8 (E8 _ _) ?_
        exact hR _ v _ _ (((((dk.bring 4).drop.bring 3).bring 3).bring 3).bring 3) ⟨(am || (q && ad)), (d5 ae), af, ag, ah, cc, cd, ce, cf, cg, ch, rfl, rfl, dl, dm, dn, h⟩
     ·replace h := h.2 dc
      refine a8 a0k (b6 (l1 Tryz.isAgg51 d rfl) ?_)
      obtain ⟨hy, hz, ia, dp, h⟩ := h
      obtain ⟨jw, jx, ib, dp⟩ := dp
      refine a8 (K9 ib _ _ _ _ hy hz) (b6 (ldA (vs := (f4 ia)) Tryz.isAgg53 Tryz.sizeOf53 rfl (d.atH dp)) ?_)
      refine i6 Tryz.call140 (h g0 au av aw ax ay az ba bb bc) ((((d.bring 4).bring 4).bring 4).bring 4) ?_
      rintro _ _ _ jy ic _ _ ⟨ey, s, id, ie, ig, dq, dr, ds, dt, du, dv, rfl, rfl, dw, dx, dy, h⟩
      have hj1 : ∀ (b4u : Int) (T0 : Sl) (T1 : Int) (T2 : Bool) (T3 : Bool) (V0 : Int) (V1 : Int) (V2 : Int) (R9 : (List d7)) (S1 : (List Int)) (S2 : (List (List Int))) (a2b : Sl) (a2d : Sl) (a2e : Int) (a0p : Sl) (a0q : Frag) (a0r : Sl) (a0s : Frag) (a0t : Sl) (a0u : Frag) (H : Hp) (w : World) (_ : RowL 95 3 r8 a0p R9 a0q) (_ : RowL 2 1 t6 a0r S1 a0s) (_ : RowsL 37 2 1 t6 a0t S2 a0u) (_ : Inv w0 ps0 H0 H [bx g0 91 [(vs T0), (vi T1), (vB T2), (vB T3), (vi V0), (vi V1), (vi V2), (vs a0p), (vs a0r), (vs a0t), (vs a2b), (vs a2d), (vi a2e)], bx ai 59 (h9 x1), a0q, a0s, a0u] w) (_ : E6 ey b4u T0 T1 T2 T3 V0 V1 V2 R9 S1 S2 a2b a2d a2e x1 H K), b8f (Value.pointer (some ⟨g0, 0, none⟩)) (Value.pointer (some ⟨ai, 0, none⟩)) (vi ey) (vi b4u) w R E := by
       intro b4u T0 T1 T2 T3 V0 V1 V2 R9 S1 S2 a2b a2d a2e a0p a0q a0r a0s a0t a0u H w a8U a8V a8W I h
       unfold b8f
       intro _
       unfold E6 at h
       refine i6 Tryz.call105 (h g0 a0p a0q a0r a0s a0t a0u a8U a8V a8W) ((((I.bring 4).bring 4).bring 4).bring 3) ?_
       rintro _ ez _ fa cj _ _ ⟨dz, ea, fb, fc, fd, fe, ff, fg, fh, fi, fj, rfl, rfl, ih, ii, ij, h⟩
       refine a8 (Pu.g fun a => by exact a5w) ?_
       refine b6 (Ld.g fun a => by simp only [g7 a]; exact (l1 Tryz.isAgg3 (cj.bring 4) rfl)) ?_
       simp only [t8]
       refine a0i (D := fun fk cm => ∃ (ci : Bool) (aq : Hp) , fk = (gv dz true (vB ci)) ∧ (Inv w0 ps0 H0 aq [bx g0 91 (p9 ea fe fg fi), ff, fh, fj, bx ai 59 (h9 x1)] cm) ∧ (∀ i, i < fa.heap.size → ¬ inF [] i → cm.heap[i]? = fa.heap[i]?) ∧ Hle ez aq ∧ (K (dz && ci) (d5 ea) fb fc fd aq)) (fun ar => ?_) (fun ar => ?_) ?_
       ·replace h := h.1 ar
        have a := ar
        simp only [g7 a]
        refine i6 Tryz.call96 h cj ?_
        rintro _ aq _ cm eb fl fm ⟨ci, rfl, rfl, h⟩
        exact ⟨ci, aq, by rfl, eb, fm, fl, h⟩
       ·exact ⟨false, ez, by rw [a3E ar], cj, fun _ _ _ => rfl, Hle.refl _, h.2 ar⟩
       ·clear h
        rintro fk cm ⟨ci, aq, rfl, eb, fm, fl, h⟩
        refine a8 (v7 _ _) ?_
        exact hR _ aq _ _ (((((eb.bring 4).drop.bring 3).bring 3).bring 3).bring 3) ⟨(dz && ci), (d5 ea), fb, fc, fd, fe, ff, fg, fh, fi, fj, rfl, rfl, ih, ii, ij, h⟩
      refine r5 fun j1 hx1 => ?_
      refine i6 Tryz.call63 (h g0 dq dr ds dt du dv dw dx dy) ((((ic.bring 3).bring 3).bring 3).bring 3) ?_
      rintro _ ik _ jz cn _ _ ⟨ka, rfl, rfl, h⟩
      refine m5 h (fun _ h => ?_) (fun _ h => ?_)
      ·refine a8 a0k (b6 (l1 Tryz.isAgg51 (cn.bring 4) rfl) ?_)
       obtain ⟨il, im, io, ec, h⟩ := h
       obtain ⟨kb, kc, ip, ec⟩ := ec
       refine a8 (K9 ip _ _ _ _ il im) (b6 (ldA (vs := (f4 io)) Tryz.isAgg53 Tryz.sizeOf53 rfl (cn.atH ec)) ?_)
       refine i6 Tryz.call140 (h g0 dq dr ds dt du dv dw dx dy) ((((cn.bring 3).bring 3).bring 3).bring 3) ?_
       rintro _ iq _ kd ir _ _ ⟨it, t, iu, iv, iw, ix, iy, iz, ja, jb, jc, rfl, rfl, jd, je, jf, h⟩
       exact hx1 _ _ (hj1 it t.fscript t.fleft t.fended t.fout t.fo.u6 t.fo.u1 t.fo.s7 iu iv iw t.fnames t.flists t.ftaken ix iy iz ja jb jc iq _ jd je jf (((((ir.bring 3).bring 3).bring 3).bring 4).bring 4) h)
      ·exact hx1 _ _ (hj1 0 s.fscript s.fleft s.fended s.fout s.fo.u6 s.fo.u1 s.fo.s7 id ie ig s.fnames s.flists s.ftaken dq dr ds dt du dv ik _ dw dx dy (((((cn.bring 3).bring 3).bring 3).bring 4).bring 4) h)
def a2A (x0 : b8) (o : (List d7)) (p : (List Int)) (q : (List (List Int))) (x1 : m7) (H : Hp) (K : b8 → (List d7) → (List Int) → (List (List Int)) → Hp → Prop) : Prop :=
 (0 : Int) ≤ 0 ∧ (0 : Int) < x1.m6.n ∧ ∃ b : m2, EltH H x1.m6 0 4 (f4 b) ∧
 B7 (d5 x0) o p q b H (fun (r : Int) (e : b8) (f : (List d7)) (g : (List Int)) (i : (List (List Int))) (s : Hp) =>
 a0P b s (fun ac c j =>
 TG ((c || (decide (b.b7 = 2))) = true) (fun k_ => A6 (d5 e) f g i j fun t u v y z H_ => k_ (t, u, v, y, z) H_) (false, (d5 e), f, g, i) j (fun (a : Bool × b8 × (List d7) × (List Int) × (List (List Int))) (k : Hp) =>
 (((c || (decide (b.b7 = 2))) && (!a.1)) = true →
 K (b8.mk (a.2.1.fscript) (a.2.1.fleft) (a.2.1.fended) (a.2.1.fout) (i5.mk (a.2.1.fo.u6) (a.2.1.fo.u1) (a.2.1.fo.s7) (Sl.mk none 0 0) (Sl.mk none 0 0) (Sl.mk none 0 0)) (a.2.1.fnames) (a.2.1.flists) (a.2.1.ftaken)) a.2.2.1 a.2.2.2.1 a.2.2.2.2 k) ∧
 (((c || (decide (b.b7 = 2))) && (!a.1)) = false →
 u0 (b8.mk (a.2.1.fscript) (a.2.1.fleft) (a.2.1.fended) (a.2.1.fout) (i5.mk (a.2.1.fo.u6) (a.2.1.fo.u1) (a.2.1.fo.s7) (Sl.mk none 0 0) (Sl.mk none 0 0) (Sl.mk none 0 0)) (a.2.1.fnames) (a.2.1.flists) (a.2.1.ftaken)) a.2.2.1 a.2.2.2.1 a.2.2.2.2 k (fun l m =>
 (l = true →
 L3 (a.2.1.fnames) x1.d9 m (fun d aa =>
 (0 : Int) ≤ d ∧ ∃ ab : Int, (a.2.2.2.1)[(d : Int).toNat]? = some ab ∧
 K (b8.mk (a.2.1.fscript) (a.2.1.fleft) (a.2.1.fended) (a.2.1.fout) (i5.mk (a.2.1.fo.u6) (a.2.1.fo.u1) (a.2.1.fo.s7) (Sl.mk none 0 0) (Sl.mk none 0 0) (Sl.mk none 0 0)) (a.2.1.fnames) (a.2.1.flists) (a.2.1.ftaken)) a.2.2.1 (a.2.2.2.1.set (d : Int).toNat r) a.2.2.2.2 aa)) ∧
 (l = false →
 K (b8.mk (a.2.1.fscript) (a.2.1.fleft) (a.2.1.fended) (a.2.1.fout) (i5.mk (a.2.1.fo.u6) (a.2.1.fo.u1) (a.2.1.fo.s7) (Sl.mk none 0 0) (Sl.mk none 0 0) (Sl.mk none 0 0)) (a.2.1.fnames) (a.2.1.flists) (a.2.1.ftaken)) a.2.2.1 a.2.2.2.1 a.2.2.2.2 m))))))
theorem a8X (x0 aq ar au x1) {H K} (h : a2A x0 aq ar au x1 H K) : a2u x0 aq ar au x1 H K := by
 intro g0 bk bl bm bn bo bp bq br bs
 refine Ct.of fun w0 w ps0 H0 R E I hR => c9Z ?_
 unfold a2A at h
 unfold d3h
 refine F0 I (cs := (f8 x1)) rfl fun bt ck ae cl => ?_
 refine a8 V8 (b6 (l1 Tryz.isAgg51 ae rfl) ?_)
 obtain ⟨bu, bv, q, af, h⟩ := h
 obtain ⟨cm, cn, bw, af⟩ := af
 refine a8 (K9 bw _ _ _ _ bu bv) (b6 (ldA (vs := (f4 q)) Tryz.isAgg53 Tryz.sizeOf53 rfl (ae.atH af)) ?_)
 refine B9 ae Tryz.zeroValue53 (cs := [(vi 0), (vi 0), (eS), (nS)]) rfl fun bz co ca cp => ?_
 refine o4 ca Tryz.sizeOf53 (vs := (f4 q)) (cs' := (f4 q)) rfl rfl (nb rfl) rfl rfl fun cq av cr => ?_
 refine b6 (lW Tryz.isAgg53 Tryz.sizeOf53 rfl av) ?_
 refine i6 Tryz.call140 (h g0 bk bl bm bn bo bp bq br bs) ((((av.bring 5).bring 5).bring 5).bring 5) ?_
 rintro _ _ _ ct aw _ _ ⟨ag, ax, cb, cc, cd, ah, ai, aj, ak, al, am, rfl, rfl, ay, az, ba, h⟩
 refine b6 (lW Tryz.isAgg53 Tryz.sizeOf53 rfl (aw.bring 4)) ?_
 refine i6 Tryz.call141 h aw ?_
 rintro _ bb _ bc y _ _ ⟨ce, aa, rfl, rfl, h⟩
 refine a8 (m8 _ _ (vi ce) rfl) (a8 (m8 _ _ (vB aa) rfl) ?_)
 refine a8 (Pu.g fun a => by exact K8) ?_
 refine b6 (Ld.g fun a => by simp only [g7 a]; exact (l1 Tryz.isAgg3 (y.bring 4) rfl)) ?_
 refine a8 (Pu.g fun a => by simp only [g7 a]; exact pEq) ?_
 refine a8 (E8 _ _) ?_
 simp only [t8]
 refine a0i (D := fun bd ab => ∃ (s : Bool) (b : b8) (d : (List d7)) (c : (List Int)) (e : (List (List Int))) (n : Hp) (f : Sl) (j : Frag) (k : Sl) (o : Frag) (l : Sl) (m : Frag) , bd = (gv (aa || (decide (q.b7 = 2))) true (vB s)) ∧ (RowL 95 3 r8 f d j) ∧ (RowL 2 1 t6 k c o) ∧ (RowsL 37 2 1 t6 l e m) ∧ (Inv w0 ps0 H0 n [bx g0 91 (p9 b f k l), j, o, m, bx bz 53 (f4 q), bx bt 73 (f8 x1)] ab) ∧ (∀ i, i < bc.heap.size → ¬ inF [bx g0 91 (p9 ax ah aj al), ai, ak, am] i → ab.heap[i]? = bc.heap[i]?) ∧ Hle bb n ∧ ((((aa || (decide (q.b7 = 2))) && (!s)) = true →
 K (d5 b) d c e n) ∧
 (((aa || (decide (q.b7 = 2))) && (!s)) = false →
 u0 (d5 b) d c e n (fun (an : Bool) (ac : Hp) =>
 (an = true →
 L3 b.fnames x1.d9 ac (fun (z : Int) (ao : Hp) =>
 (0 : Int) ≤ z ∧ ∃ be : Int, (c)[(z : Int).toNat]? = some be ∧
 K (d5 b) d (c.set (z : Int).toNat ag) e ao)) ∧
 (an = false →
 K (d5 b) d c e ac))))) (fun r => ?_) (fun r => ?_) ?_
 ·replace h := h.1 r
  have a := r
  simp only [g7 a]
  refine i6 Tryz.call105 (h g0 ah ai aj ak al am ay az ba) ((((y.bring 3).bring 3).bring 3).bring 3) ?_
  rintro _ n _ ab ad bf bg ⟨s, b, d, c, e, f, j, k, o, l, m, rfl, rfl, t, p, u, h⟩
  exact ⟨s, b, d, c, e, n, f, j, k, o, l, m, by rfl, t, p, u, ad, bg, bf, h⟩
 ·exact ⟨false, (d5 ax), cb, cc, cd, bb, ah, ai, aj, ak, al, am, by rw [a3E r], ay, az, ba, ((((y.bring 3).bring 3).bring 3).bring 3), fun _ _ _ => rfl, Hle.refl _, h.2 r⟩
 ·clear h
  rintro bd ab ⟨s, b, d, c, e, n, f, j, k, o, l, m, rfl, t, p, u, ad, bg, bf, h⟩
  refine a8 (Pu.g fun a => by simp only [g7 a]; exact (G3 _)) ?_
  refine a8 (v7 _ _) ?_
  refine m5 h (fun _ h => ?_) (fun _ h => ?_)
  ·exact hR _ n _ _ ((((((ad.bring 4).drop.bring 4).drop.bring 3).bring 3).bring 3).bring 3) ⟨(d5 b), d, c, e, f, j, k, o, l, m, rfl, rfl, t, p, u, h⟩
  ·refine i6 Tryz.call63 (h g0 f j k o l m t p u) ((((ad.bring 3).bring 3).bring 3).bring 3) ?_
   rintro _ ac _ cu bh _ _ ⟨an, rfl, rfl, h⟩
   refine m5 h (fun _ h => ?_) (fun _ h => ?_)
   ·refine U6 bh fun cv v => ?_
    refine j8 (m3 _) ?_
    refine j8 O2 ?_
    refine j8 a2s ?_
    refine j8 (m3 _) ?_
    refine j8 b3j ?_
    refine j8 a1P ?_
    refine u7 (l1 Tryz.isAgg37 v rfl) ?_
    refine u7 (l1 Tryz.isAgg88 v rfl) ?_
    refine u7 (l1 Tryz.isAgg9 (v.bring 5) rfl) ?_
    refine i6 Tryz.call142 h v ?_
    rintro _ ao _ cw cf _ cg ⟨z, rfl, rfl, h⟩
    refine ⟨(cg _ v.lt1 (Inv.a5M (Fi := []) v)), ?_⟩
    obtain ⟨bi, be, ap, h⟩ := h
    obtain ⟨cx, cy, bj, cz⟩ := p.addr ap
    refine j8 (P4 bj _ _ _ _ bi (p.lt bi ap)) ?_
    refine b2F (x := ag) (cf.bring 2) p bj (List.getElem?_eq_some_iff.1 ap).1 Tryz.sizeOf2 rfl fun ch da ci cj db => ?_
    exact hR _ ao _ _ ((((((cj.bring 4).drop.bring 4).drop.bring 3).bring 1).bring 3).bring 3) ⟨(d5 b), d, (c.set (z : Int).toNat ag), e, f, j, k, ch, l, m, rfl, rfl, t, ci, u, h⟩
   ·exact hR _ ac _ _ ((((((bh.bring 4).drop.bring 4).drop.bring 3).bring 3).bring 3).bring 3) ⟨(d5 b), d, c, e, f, j, k, o, l, m, rfl, rfl, t, p, u, h⟩
def E7 (u5 : Int) (U7 : Int) (T0 : Sl) (T1 : Int) (T2 : Bool) (T3 : Bool) (V0 : Int) (V1 : Int) (V2 : Int) (R9 : (List d7)) (S1 : (List Int)) (S2 : (List (List Int))) (a2b : Sl) (a2d : Sl) (a2e : Int) (k : m7) (H : Hp) (K : b8 → (List d7) → (List Int) → (List (List Int)) → Hp → Prop) : Prop :=
 A6 (b8.mk T0 T1 T2 T3 (i5.mk V0 V1 V2 (Sl.mk none 0 0) (Sl.mk none 0 0) (Sl.mk none 0 0)) a2b a2d a2e) R9 S1 S2 H (fun (g : Bool) (b : b8) (d : (List d7)) (e : (List Int)) (c : (List (List Int))) (i : Hp) =>
 ((!g) = true →
 K (d5 b) d e c i) ∧
 ((!g) = false →
 L3 b.flists k.d9 i (fun f j =>
 (0 : Int) ≤ f ∧ ∃ a : List Int, (c)[(f : Int).toNat]? = some a ∧
 (((decide (u5 < 0)) || (decide ((a.length : Int) ≤ u5))) = true →
 P1 (d5 b) d e c 3 j (fun (l : b8) (m : (List d7)) (n : (List Int)) (o : (List (List Int))) (p : Hp) =>
 K (d5 l) m n o p)) ∧
 (((decide (u5 < 0)) || (decide ((a.length : Int) ≤ u5))) = false →
 (0 : Int) ≤ u5 ∧ ∃ q : Int, (a)[(u5 : Int).toNat]? = some q ∧
 K (d5 b) d e (c.set (f : Int).toNat (a.set (u5 : Int).toNat U7)) j))))
def a2R (x0 : b8) (l : (List d7)) (m : (List Int)) (o : (List (List Int))) (x1 : m7) (H : Hp) (K : b8 → (List d7) → (List Int) → (List (List Int)) → Hp → Prop) : Prop :=
 (0 : Int) ≤ 0 ∧ (0 : Int) < x1.m6.n ∧ ∃ g : m2, EltH H x1.m6 0 4 (f4 g) ∧
 B7 (d5 x0) l m o g H (fun (i : Int) (a : b8) (c : (List d7)) (d : (List Int)) (e : (List (List Int))) (p : Hp) =>
 u0 (d5 a) c d e p (fun j f =>
 (j = true →
 (0 : Int) ≤ 1 ∧ (1 : Int) < x1.m6.n ∧ ∃ k : m2, EltH f x1.m6 1 4 (f4 k) ∧
 B7 (d5 a) c d e k f (fun (q : Int) (b : b8) (r : (List d7)) (s : (List Int)) (t : (List (List Int))) (u : Hp) =>
 E7 i q b.fscript b.fleft b.fended b.fout b.fo.u6 b.fo.u1 b.fo.s7 r s t b.fnames b.flists b.ftaken x1 u K)) ∧
 (j = false →
 E7 i 0 a.fscript a.fleft a.fended a.fout a.fo.u6 a.fo.u1 a.fo.s7 c d e a.fnames a.flists a.ftaken x1 f K)))
theorem a9m (x0 ak al am x1) {H K} (h : a2R x0 ak al am x1 H K) : a2E x0 ak al am x1 H K := by
 intro g0 ba bb bc bd be bf bg bh bi
 refine Ct.of fun w0 w ps0 H0 R E I hR => d0a ?_
 unfold a2R at h
 unfold d3i
 refine F0 I (cs := (f8 x1)) rfl fun an dt k du => ?_
 refine a8 V8 (b6 (l1 Tryz.isAgg51 k rfl) ?_)
 obtain ⟨bj, bk, bl, l, h⟩ := h
 obtain ⟨dv, dw, bm, l⟩ := l
 refine a8 (K9 bm _ _ _ _ bj bk) (b6 (ldA (vs := (f4 bl)) Tryz.isAgg53 Tryz.sizeOf53 rfl (k.atH l)) ?_)
 refine i6 Tryz.call140 (h g0 ba bb bc bd be bf bg bh bi) ((((k.bring 4).bring 4).bring 4).bring 4) ?_
 rintro _ _ _ dx bn _ _ ⟨m, b, bo, bp, bq, n, o, p, q, r, s, rfl, rfl, t, u, y, h⟩
 have hj1 : ∀ (U7 : Int) (T0 : Sl) (T1 : Int) (T2 : Bool) (T3 : Bool) (V0 : Int) (V1 : Int) (V2 : Int) (R9 : (List d7)) (S1 : (List Int)) (S2 : (List (List Int))) (a2b : Sl) (a2d : Sl) (a2e : Int) (a0p : Sl) (a0q : Frag) (a0r : Sl) (a0s : Frag) (a0t : Sl) (a0u : Frag) (H : Hp) (w : World) (_ : RowL 95 3 r8 a0p R9 a0q) (_ : RowL 2 1 t6 a0r S1 a0s) (_ : RowsL 37 2 1 t6 a0t S2 a0u) (_ : Inv w0 ps0 H0 H [bx g0 91 [(vs T0), (vi T1), (vB T2), (vB T3), (vi V0), (vi V1), (vi V2), (vs a0p), (vs a0r), (vs a0t), (vs a2b), (vs a2d), (vi a2e)], bx an 73 (f8 x1), a0q, a0s, a0u] w) (_ : E7 m U7 T0 T1 T2 T3 V0 V1 V2 R9 S1 S2 a2b a2d a2e x1 H K), b8e (Value.pointer (some ⟨g0, 0, none⟩)) (Value.pointer (some ⟨an, 0, none⟩)) (vi m) (vi U7) w R E := by
  intro U7 T0 T1 T2 T3 V0 V1 V2 R9 S1 S2 a2b a2d a2e a0p a0q a0r a0s a0t a0u H w a8U a8V a8W I h
  unfold b8e
  intro _
  unfold E7 at h
  refine i6 Tryz.call105 (h g0 a0p a0q a0r a0s a0t a0u a8U a8V a8W) ((((I.bring 4).bring 4).bring 4).bring 3) ?_
  rintro _ br _ dy ao _ _ ⟨dz, ap, aq, ar, au, z, aa, ab, ac, ad, av, rfl, rfl, ae, af, ag, h⟩
  refine a8 (G3 _) ?_
  refine m5 h (fun _ h => ?_) (fun _ h => ?_)
  ·exact hR _ br _ _ (((((ao.bring 4).drop.bring 3).bring 3).bring 3).bring 3) ⟨(d5 ap), aq, ar, au, z, aa, ab, ac, ad, av, rfl, rfl, ae, af, ag, h⟩
  ·refine U6 ao fun ea d => ?_
   refine j8 (m3 _) ?_
   refine j8 O2 ?_
   refine j8 a0j ?_
   refine j8 (m3 _) ?_
   refine j8 b0i ?_
   refine j8 a1P ?_
   refine u7 (l1 Tryz.isAgg40 d rfl) ?_
   refine u7 (l1 Tryz.isAgg88 d rfl) ?_
   refine u7 (l1 Tryz.isAgg9 (d.bring 4) rfl) ?_
   refine i6 Tryz.call142 h d ?_
   rintro _ bs _ eb bt _ bu ⟨bv, rfl, rfl, h⟩
   refine ⟨(bu _ d.lt1 (Inv.a5M (Fi := []) d)), ?_⟩
   obtain ⟨aw, bw, bz, h⟩ := h
   obtain ⟨ec, ca, cb, ed, cc, f, i, e, cd, ce, ah⟩ := RowsL.open_ ag (bt.bring 3) bz
   obtain ⟨ee, ef, ax, eg⟩ := f.addr i
   refine j8 (a9q ax _ _ _ _ aw (f.lt aw i)) ?_
   refine u7 (ld1 (v := (vs ca)) Tryz.isAgg37 (f.atW ah ax i)) ?_
   refine a8 pLs ?_
   simp only [t8]
   refine a8 (Pu.g fun a => by simp only [g7 a]; exact (a6Y Tryz.underlying37 e)) ?_
   refine a8 (Pu.g fun a => by simp only [g7 a]; exact pGe) ?_
   refine a8 (E8 _ _) ?_
   refine m5 h (fun _ h => ?_) (fun _ h => ?_)
   ·refine i6 Tryz.call109 (h g0 z aa ab ac ad av ae af ag) (((((((ah.bring 2).bring 2).bring 2).b6m.permF ce).bring 3).bring 3).bring 3) ?_
    rintro _ cf _ eh cg _ _ ⟨ch, ci, cj, ck, cl, cm, cn, co, cp, cq, rfl, rfl, cr, ct, cu, h⟩
    exact hR _ cf _ _ (((((cg.bring 4).drop.bring 3).bring 3).bring 3).bring 3) ⟨(d5 ch), ci, cj, ck, cl, cm, cn, co, cp, cq, rfl, rfl, cr, ct, cu, h⟩
   ·obtain ⟨ay, ei, ai, h⟩ := h
    obtain ⟨ej, ek, az, el⟩ := e.addr ai
    refine a8 (P4 az _ _ _ _ ay (e.lt ay ai)) ?_
    refine b2F (x := U7) (ah.bring 1) e az (List.getElem?_eq_some_iff.1 ai).1 Tryz.sizeOf2 rfl fun cv em cw cx en => ?_
    exact hR _ bs _ _ (((((((cx.bring 2).bring 1).bring 2).b6m.bring 4).drop.bring 3).bring 3).bring 3) ⟨(d5 ap), aq, ar, (au.set (bv : Int).toNat (bw.set (m : Int).toNat U7)), z, aa, ab, ac, ad, (cb ++ (cv ++ cc)), rfl, rfl, ae, af, (RowsL.c4w f i cw cd), h⟩
 refine r5 fun j1 hx1 => ?_
 refine i6 Tryz.call63 (h g0 n o p q r s t u y) ((((bn.bring 3).bring 3).bring 3).bring 3) ?_
 rintro _ cy _ eo j _ _ ⟨ep, rfl, rfl, h⟩
 refine m5 h (fun _ h => ?_) (fun _ h => ?_)
 ·refine a8 V8 (b6 (l1 Tryz.isAgg51 (j.bring 4) rfl) ?_)
  obtain ⟨cz, da, db, aj, h⟩ := h
  obtain ⟨eq, er, dc, aj⟩ := aj
  refine a8 (K9 dc _ _ _ _ cz da) (b6 (ldA (vs := (f4 db)) Tryz.isAgg53 Tryz.sizeOf53 rfl (j.atH aj)) ?_)
  refine i6 Tryz.call140 (h g0 n o p q r s t u y) ((((j.bring 3).bring 3).bring 3).bring 3) ?_
  rintro _ dd _ es de _ _ ⟨df, c, dg, dh, di, dj, dk, dl, dm, dn, dp, rfl, rfl, dq, dr, ds, h⟩
  exact hx1 _ _ (hj1 df c.fscript c.fleft c.fended c.fout c.fo.u6 c.fo.u1 c.fo.s7 dg dh di c.fnames c.flists c.ftaken dj dk dl dm dn dp dd _ dq dr ds (((((de.bring 3).bring 3).bring 3).bring 4).bring 4) h)
 ·exact hx1 _ _ (hj1 0 b.fscript b.fleft b.fended b.fout b.fo.u6 b.fo.u1 b.fo.s7 bo bp bq b.fnames b.flists b.ftaken n o p q r s cy _ t u y (((((j.bring 3).bring 3).bring 3).bring 4).bring 4) h)
def a0e (b : m7) (L6 : Sl) (L8 : Int) (L9 : Bool) (M0 : Bool) (C6 : Int) (C7 : Int) (C8 : Int) (C2 : (List d7)) (C3 : (List Int)) (C4 : (List (List Int))) (M1 : Sl) (M2 : Sl) (M3 : Int) (H : Hp) (n1 : (Sl × Int × Bool × Bool × Int × Int × Int × (List d7) × (List Int) × (List (List Int)) × Sl × Sl × Int) → Hp → Prop) (K : b8 → (List d7) → (List Int) → (List (List Int)) → Hp → Prop) : Prop :=
 (0 : Int) ≤ 0 ∧ (0 : Int) < b.y6.n ∧ ∃ l : o0, EltH H b.y6 0 4 (h9 l) ∧
 A0 (b8.mk L6 L8 L9 M0 (i5.mk C6 C7 C8 (Sl.mk none 0 0) (Sl.mk none 0 0) (Sl.mk none 0 0)) M1 M2 M3) C2 C3 C4 l H (fun (c : Bool) (d : b8) (e : (List d7)) (f : (List Int)) (g : (List (List Int))) (m : Hp) =>
 TG (c = true) (u0 (d5 d) e f g m) false m (fun (o : Bool) (p : Hp) =>
 ((c && o) = true →
 E2 (d5 d) e f g b.K7 p (fun (a : b8) (i : (List d7)) (j : (List Int)) (k : (List (List Int))) (s : Hp) =>
 u0 (d5 a) i j k s (fun q r =>
 ((!q) = true →
 K (d5 a) i j k r) ∧
 ((!q) = false →
 n1 (a.fscript, a.fleft, a.fended, a.fout, a.fo.u6, a.fo.u1, a.fo.s7, i, j, k, a.fnames, a.flists, a.ftaken) r)))) ∧
 ((c && o) = false →
 K (d5 d) e f g p)))
def a3o (x0 : b8) (b : (List d7)) (c : (List Int)) (d : (List (List Int))) (x1 : m7) (H : Hp) (K : b8 → (List d7) → (List Int) → (List (List Int)) → Hp → Prop) : Prop :=
 (x1.b7 = 7 →
 A6 (d5 x0) b c d H (fun (bt : Bool) (ah : b8) (ai : (List d7)) (aj : (List Int)) (ak : (List (List Int))) (al : Hp) =>
 K (d5 ah) ai aj ak al)) ∧
 (¬ (x1.b7 = 7) →
 (x1.b7 = 1 →
 a2u (d5 x0) b c d x1 H (fun (am : b8) (an : (List d7)) (ao : (List Int)) (ap : (List (List Int))) (aq : Hp) =>
 K (d5 am) an ao ap aq)) ∧
 (¬ (x1.b7 = 1) →
 (x1.b7 = 2 →
 a2E (d5 x0) b c d x1 H (fun (ar : b8) (au : (List d7)) (av : (List Int)) (aw : (List (List Int))) (ax : Hp) =>
 K (d5 ar) au av aw ax)) ∧
 (¬ (x1.b7 = 2) →
 (x1.b7 = 3 →
 (0 : Int) ≤ 0 ∧ (0 : Int) < x1.y6.n ∧ ∃ y : o0, EltH H x1.y6 0 4 (h9 y) ∧
 A0 (d5 x0) b c d y H (fun (z : Bool) (f : b8) (g : (List d7)) (i : (List Int)) (j : (List (List Int))) (ay : Hp) =>
 u0 (d5 f) g i j ay (fun aa l =>
 ((!aa) = true →
 K (d5 f) g i j l) ∧
 ((!aa) = false →
 (z = true →
 E2 (d5 f) g i j x1.K7 l (fun (az : b8) (ba : (List d7)) (bb : (List Int)) (bc : (List (List Int))) (bd : Hp) =>
 K (d5 az) ba bb bc bd)) ∧
 (z = false →
 E2 (d5 f) g i j x1.L0 l (fun (be : b8) (bf : (List d7)) (bg : (List Int)) (bh : (List (List Int))) (bi : Hp) =>
 K (d5 be) bf bg bh bi)))))) ∧
 (¬ (x1.b7 = 3) →
 (x1.b7 = 4 →
 TL ((x0.fscript, x0.fleft, x0.fended, x0.fout, x0.fo.u6, x0.fo.u1, x0.fo.s7, b, c, d, x0.fnames, x0.flists, x0.ftaken) : Sl × Int × Bool × Bool × Int × Int × Int × (List d7) × (List Int) × (List (List Int)) × Sl × Sl × Int) H fun (s : Sl × Int × Bool × Bool × Int × Int × Int × (List d7) × (List Int) × (List (List Int)) × Sl × Sl × Int) H n1 => a0e x1 s.1 s.2.1 s.2.2.1 s.2.2.2.1 s.2.2.2.2.1 s.2.2.2.2.2.1 s.2.2.2.2.2.2.1 s.2.2.2.2.2.2.2.1 s.2.2.2.2.2.2.2.2.1 s.2.2.2.2.2.2.2.2.2.1 s.2.2.2.2.2.2.2.2.2.2.1 s.2.2.2.2.2.2.2.2.2.2.2.1 s.2.2.2.2.2.2.2.2.2.2.2.2 H n1 K) ∧
 (¬ (x1.b7 = 4) →
 (x1.b7 = 6 →
 (0 : Int) ≤ 0 ∧ (0 : Int) < x1.y6.n ∧ ∃ ab : o0, EltH H x1.y6 0 4 (h9 ab) ∧
 A0 (d5 x0) b c d ab H (fun (m : Bool) (a : b8) (o : (List d7)) (p : (List Int)) (q : (List (List Int))) (ac : Hp) =>
 TG ((!m) = true) (u0 (d5 a) o p q ac) false ac (fun (ad : Bool) (ae : Hp) =>
 (((!m) && ad) = true →
 K (b8.mk a.fscript a.fleft true a.fout (i5.mk 2 a.fo.u1 a.fo.s7 (Sl.mk none 0 0) (Sl.mk none 0 0) (Sl.mk none 0 0)) a.fnames a.flists a.ftaken) o p q ae) ∧
 (((!m) && ad) = false →
 K (d5 a) o p q ae)))) ∧
 (¬ (x1.b7 = 6) →
 (x1.b7 = 5 →
 (0 : Int) ≤ 0 ∧ (0 : Int) < x1.y6.n ∧ ∃ af : o0, EltH H x1.y6 0 4 (h9 af) ∧
 A0 (d5 x0) b c d af H (fun (e : Bool) (bj : b8) (bk : (List d7)) (bl : (List Int)) (bm : (List (List Int))) (bn : Hp) =>
 A6 (d5 bj) bk bl bm bn (fun (ag : Bool) (r : b8) (k : (List d7)) (t : (List Int)) (u : (List (List Int))) (v : Hp) =>
 ((!ag) = true →
 K (d5 r) k t u v) ∧
 ((!ag) = false →
 (k.length + ([(d7.mk false 0 e)] : List d7).length) * 25 ≤ 140737488355328 ∧
 ((!e) = true →
 P1 (d5 r) (k ++ [(d7.mk false 0 e)]) t u 4 v (fun (bo : b8) (bp : (List d7)) (bq : (List Int)) (br : (List (List Int))) (bs : Hp) =>
 K (d5 bo) bp bq br bs)) ∧
 ((!e) = false →
 K (d5 r) (k ++ [(d7.mk false 0 e)]) t u v))))) ∧
 (¬ (x1.b7 = 5) →
 K (d5 x0) b c d H)))))))
theorem a9E (x0 ba bb bc x1) {H K} (h : a3o x0 ba bb bc x1 H K) : a0Q x0 ba bb bc x1 H K := by
 intro g0 k m o p q r t u v
 refine Ct.of fun w0 w ps0 H0 R E I hR => d3e ?_
 unfold a3o at h
 unfold F64
 refine F0 I (cs := (f8 x1)) rfl fun bv jq g jr => ?_
 refine a8 V6 (b6 (l1 Tryz.isAgg3 g rfl) (a8 pEq ?_))
 refine f6 h (fun _ h => ?_) (fun _ h => ?_)
 ·refine i6 Tryz.call105 (h g0 k m o p q r t u v) ((((g.bring 4).bring 4).bring 4).bring 4) ?_
  rintro _ eh _ js ei _ _ ⟨jt, ej, ek, el, em, en, eo, ep, eq, er, es, rfl, rfl, et, eu, ev, h⟩
  exact hR _ eh _ _ (((((ei.bring 4).drop.bring 3).bring 3).bring 3).bring 3) ⟨(d5 ej), ek, el, em, en, eo, ep, eq, er, es, rfl, rfl, et, eu, ev, h⟩
 ·refine a8 pEq ?_
  refine f6 h (fun _ h => ?_) (fun _ h => ?_)
  ·refine b6 (lW Tryz.isAgg73 Tryz.sizeOf73 rfl g) ?_
   refine i6 Tryz.call106 (h g0 k m o p q r t u v) ((((g.bring 4).bring 4).bring 4).bring 4) ?_
   rintro _ ew _ ju ex _ _ ⟨ey, ez, fa, fb, fc, fd, fe, ff, fg, fh, rfl, rfl, fi, fj, fk, h⟩
   exact hR _ ew _ _ (((((ex.bring 4).drop.bring 3).bring 3).bring 3).bring 3) ⟨(d5 ey), ez, fa, fb, fc, fd, fe, ff, fg, fh, rfl, rfl, fi, fj, fk, h⟩
  ·refine a8 pEq ?_
   refine f6 h (fun _ h => ?_) (fun _ h => ?_)
   ·refine b6 (lW Tryz.isAgg73 Tryz.sizeOf73 rfl g) ?_
    refine i6 Tryz.call107 (h g0 k m o p q r t u v) ((((g.bring 4).bring 4).bring 4).bring 4) ?_
    rintro _ fl _ jv fm _ _ ⟨fn, fp, fq, fs, ft, fu, fv, fw, fx, fy, rfl, rfl, fz, ga, gb, h⟩
    exact hR _ fl _ _ (((((fm.bring 4).drop.bring 3).bring 3).bring 3).bring 3) ⟨(d5 fn), fp, fq, fs, ft, fu, fv, fw, fx, fy, rfl, rfl, fz, ga, gb, h⟩
   ·refine a8 pEq ?_
    refine f6 h (fun _ h => ?_) (fun _ h => ?_)
    ·refine a8 V7 (b6 (l1 Tryz.isAgg57 g rfl) ?_)
     obtain ⟨gc, gd, ge, bw, h⟩ := h
     obtain ⟨jw, jx, gf, bw⟩ := bw
     refine a8 (P6 gf _ _ _ _ gc gd) (b6 (ldA (vs := (h9 ge)) Tryz.isAgg59 Tryz.sizeOf59 rfl (g.atH bw)) ?_)
     refine i6 Tryz.call108 (h g0 k m o p q r t u v) ((((g.bring 4).bring 4).bring 4).bring 4) ?_
     rintro _ _ _ jy gg _ _ ⟨jz, gh, gi, gj, gk, bd, be, bf, bg, bh, bi, rfl, rfl, bj, bk, bl, h⟩
     refine i6 Tryz.call63 (h g0 bd be bf bg bh bi bj bk bl) ((((gg.bring 3).bring 3).bring 3).bring 3) ?_
     rintro _ gl _ ka aj _ _ ⟨kb, rfl, rfl, h⟩
     refine a8 (G3 _) ?_
     refine m5 h (fun _ h => ?_) (fun _ h => ?_)
     ·exact hR _ gl _ _ (((((aj.bring 4).drop.bring 3).bring 3).bring 3).bring 3) ⟨(d5 gh), gi, gj, gk, bd, be, bf, bg, bh, bi, rfl, rfl, bj, bk, bl, h⟩
     ·refine m5 h (fun _ h => ?_) (fun _ h => ?_)
      ·refine a8 a0O (b6 (l1 Tryz.isAgg23 (aj.bring 4) rfl) ?_)
       refine i6 Tryz.call38 (h g0 bd be bf bg bh bi bj bk bl) ((((aj.bring 3).bring 3).bring 3).bring 3) ?_
       rintro _ gm _ kc gn _ _ ⟨go, gp, gq, gr, gs, gt, gu, gw, gx, gy, rfl, rfl, gz, ha, hb, h⟩
       exact hR _ gm _ _ (((((gn.bring 4).drop.bring 3).bring 3).bring 3).bring 3) ⟨(d5 go), gp, gq, gr, gs, gt, gu, gw, gx, gy, rfl, rfl, gz, ha, hb, h⟩
      ·refine a8 a1Q (b6 (l1 Tryz.isAgg23 (aj.bring 4) rfl) ?_)
       refine i6 Tryz.call38 (h g0 bd be bf bg bh bi bj bk bl) ((((aj.bring 3).bring 3).bring 3).bring 3) ?_
       rintro _ hc _ kd hd _ _ ⟨he, hf, hg, hh, hi, hj, hk, hl, hm, hn, rfl, rfl, ho, hp, hq, h⟩
       exact hR _ hc _ _ (((((hd.bring 4).drop.bring 3).bring 3).bring 3).bring 3) ⟨(d5 he), hf, hg, hh, hi, hj, hk, hl, hm, hn, rfl, rfl, ho, hp, hq, h⟩
    ·refine a8 pEq ?_
     refine G4 (fun bz => ?_) (fun bz => ?_)
     ·replace h := h.1 bz
      obtain ⟨ca, ak, hr, hs⟩ := h
      refine y7 (J := fun n l w => ∃ (s : Sl × Int × Bool × Bool × Int × Int × Int × (List d7) × (List Int) × (List (List Int)) × Sl × Sl × Int) (H : Hp) (a1f : Sl) (a1g : Frag) (a1h : Sl) (a1i : Frag) (a1j : Sl) (a1k : Frag) , n = ak s ∧ l = (match s with | (L6, L8, L9, M0, C6, C7, C8, C2, C3, C4, M1, M2, M3) => []) ∧ (match s with | (L6, L8, L9, M0, C6, C7, C8, C2, C3, C4, M1, M2, M3) => RowL 95 3 r8 a1f C2 a1g) ∧ (match s with | (L6, L8, L9, M0, C6, C7, C8, C2, C3, C4, M1, M2, M3) => RowL 2 1 t6 a1h C3 a1i) ∧ (match s with | (L6, L8, L9, M0, C6, C7, C8, C2, C3, C4, M1, M2, M3) => RowsL 37 2 1 t6 a1j C4 a1k) ∧ (match s with | (L6, L8, L9, M0, C6, C7, C8, C2, C3, C4, M1, M2, M3) => Inv w0 ps0 H0 H [bx bv 73 (f8 x1), bx g0 91 [(vs L6), (vi L8), (vB L9), (vB M0), (vi C6), (vi C7), (vi C8), (vs a1f), (vs a1h), (vs a1j), (vs M1), (vs M2), (vi M3)], a1g, a1i, a1k] w) ∧ ca s H) ⟨_, (x0.fscript, x0.fleft, x0.fended, x0.fout, x0.fo.u6, x0.fo.u1, x0.fo.s7, ba, bb, bc, x0.fnames, x0.flists, x0.ftaken), H, k, m, o, p, q, r, rfl, rfl, t, u, v, (((((g.bring 4).bring 4).bring 4).bring 4).bring 4), hr⟩ ?_
      rintro ke kf w next1 ⟨⟨L6, L8, L9, M0, C6, C7, C8, C2, C3, C4, M1, M2, M3⟩, H, a1f, a1g, a1h, a1i, a1j, a1k, rfl, di, a6o, a6p, a6q, I, ht⟩ hn1
      dsimp only at di I a6o a6p a6q
      clear di
      obtain ⟨n1, hm1, h⟩ : ∃ n1 : (Sl × Int × Bool × Bool × Int × Int × Int × (List d7) × (List Int) × (List (List Int)) × Sl × Sl × Int) → Hp → Prop, (∀ s' H', n1 s' H' → ca s' H' ∧ ak s' < ak (L6, L8, L9, M0, C6, C7, C8, C2, C3, C4, M1, M2, M3)) ∧ a0e x1 L6 L8 L9 M0 C6 C7 C8 C2 C3 C4 M1 M2 M3 H n1 K := ⟨_, fun _ _ h => h, hs (L6, L8, L9, M0, C6, C7, C8, C2, C3, C4, M1, M2, M3) H (fun s' H' => ca s' H' ∧ ak s' < ak (L6, L8, L9, M0, C6, C7, C8, C2, C3, C4, M1, M2, M3)) ht (fun _ _ a b => ⟨a, b⟩)⟩
      unfold c5F
      unfold a0e at h
      refine a8 V7 (b6 (l1 Tryz.isAgg57 I rfl) ?_)
      obtain ⟨hu, hv, hw, cb, h⟩ := h
      obtain ⟨kg, kh, hx, cb⟩ := cb
      refine a8 (P6 hx _ _ _ _ hu hv) (b6 (ldA (vs := (h9 hw)) Tryz.isAgg59 Tryz.sizeOf59 rfl (I.atH cb)) ?_)
      refine i6 Tryz.call108 (h g0 a1f a1g a1h a1i a1j a1k a6o a6p a6q) ((((I.bring 4).bring 4).bring 4).bring 4) ?_
      rintro _ dj _ dk dl _ _ ⟨cc, al, cd, ce, cf, am, an, ao, ap, aq, ar, rfl, rfl, cg, ch, ci, h⟩
      simp only [t8]
      refine a0i (D := fun dm bm => ∃ (ae : Bool) (y : Hp) , dm = (gv cc true (vB ae)) ∧ (Inv w0 ps0 H0 y [bx g0 91 (p9 al am ao aq), an, ap, ar, bx bv 73 (f8 x1)] bm) ∧ (∀ i, i < dk.heap.size → ¬ inF [bx g0 91 (p9 al am ao aq), an, ap, ar] i → bm.heap[i]? = dk.heap[i]?) ∧ Hle dj y ∧ (((cc && ae) = true →
 E2 (d5 al) cd ce cf x1.K7 y (fun (f : b8) (af : (List d7)) (ag : (List Int)) (ah : (List (List Int))) (hy : Hp) =>
 u0 (d5 f) af ag ah hy (fun (cj : Bool) (au : Hp) =>
 ((!cj) = true →
 K (d5 f) af ag ah au) ∧
 ((!cj) = false →
 n1 (f.fscript, f.fleft, f.fended, f.fout, f.fo.u6, f.fo.u1, f.fo.s7, af, ag, ah, f.fnames, f.flists, f.ftaken) au)))) ∧
 ((cc && ae) = false →
 K (d5 al) cd ce cf y))) (fun z => ?_) (fun z => ?_) ?_
      ·replace h := h.1 z
       have av := z
       simp only [g7 av]
       refine i6 Tryz.call63 (h g0 am an ao ap aq ar cg ch ci) ((((dl.bring 3).bring 3).bring 3).bring 3) ?_
       rintro _ y _ bm aw dn dp ⟨ae, rfl, rfl, h⟩
       exact ⟨ae, y, by rfl, aw, dp, dn, h⟩
      ·exact ⟨false, dj, by rw [a3E z], ((((dl.bring 3).bring 3).bring 3).bring 3), fun _ _ _ => rfl, Hle.refl _, h.2 z⟩
      ·clear h
       rintro dm bm ⟨ae, y, rfl, aw, dp, dn, h⟩
       refine a8 (v7 _ _) ?_
       refine m5 h (fun _ h => ?_) (fun _ h => ?_)
       ·refine a8 a0O (b6 (l1 Tryz.isAgg23 (aw.bring 4) rfl) ?_)
        refine i6 Tryz.call38 (h g0 am an ao ap aq ar cg ch ci) ((((aw.bring 3).bring 3).bring 3).bring 3) ?_
        rintro _ _ _ ki hz _ _ ⟨f, af, ag, ah, ck, cl, cm, cn, co, cp, rfl, rfl, cq, cr, ct, h⟩
        refine i6 Tryz.call63 (h g0 ck cl cm cn co cp cq cr ct) ((((hz.bring 3).bring 3).bring 3).bring 3) ?_
        rintro _ au _ kj dq _ _ ⟨cj, rfl, rfl, h⟩
        refine a8 (G3 _) ?_
        refine m5 h (fun _ h => ?_) (fun _ h => ?_)
        ·exact hR _ au _ _ (((((dq.bring 4).drop.bring 3).bring 3).bring 3).bring 3) ⟨(d5 f), af, ag, ah, ck, cl, cm, cn, co, cp, rfl, rfl, cq, cr, ct, h⟩
        ·exact hn1 _ _ _ (hm1 _ _ h).2 ⟨(f.fscript, f.fleft, f.fended, f.fout, f.fo.u6, f.fo.u1, f.fo.s7, af, ag, ah, f.fnames, f.flists, f.ftaken), au, ck, cl, cm, cn, co, cp, rfl, rfl, cq, cr, ct, (((((dq.bring 3).bring 3).bring 3).bring 3).bring 4), (hm1 _ _ h).1⟩
       ·exact hR _ y _ _ (((((aw.bring 4).drop.bring 3).bring 3).bring 3).bring 3) ⟨(d5 al), cd, ce, cf, am, an, ao, ap, aq, ar, rfl, rfl, cg, ch, ci, h⟩
     ·replace h := h.2 bz
      refine a8 pEq ?_
      refine G4 (fun cu => ?_) (fun cu => ?_)
      ·replace h := h.1 cu
       refine a8 V7 (b6 (l1 Tryz.isAgg57 g rfl) ?_)
       obtain ⟨ia, ib, ic, cv, h⟩ := h
       obtain ⟨kk, kl, id, cv⟩ := cv
       refine a8 (P6 id _ _ _ _ ia ib) (b6 (ldA (vs := (h9 ic)) Tryz.isAgg59 Tryz.sizeOf59 rfl (g.atH cv)) ?_)
       refine i6 Tryz.call108 (h g0 k m o p q r t u v) ((((g.bring 4).bring 4).bring 4).bring 4) ?_
       rintro _ dr _ ds dt _ _ ⟨cw, d, bn, bo, bp, aa, ax, ab, ay, ac, az, rfl, rfl, cx, cy, cz, h⟩
       refine a8 (G3 _) ?_
       simp only [t8]
       refine a0i (D := fun du bq => ∃ (ai : Bool) (j : Hp) , du = (gv (!cw) true (vB ai)) ∧ (Inv w0 ps0 H0 j [bx g0 91 (p9 d aa ab ac), ax, ay, az, bx bv 73 (f8 x1)] bq) ∧ (∀ i, i < ds.heap.size → ¬ inF [bx g0 91 (p9 d aa ab ac), ax, ay, az] i → bq.heap[i]? = ds.heap[i]?) ∧ Hle dr j ∧ ((((!cw) && ai) = true →
 K (b8.mk d.fscript d.fleft true d.fout (i5.mk 2 d.fo.u1 d.fo.s7 (Sl.mk none 0 0) (Sl.mk none 0 0) (Sl.mk none 0 0)) d.fnames d.flists d.ftaken) bn bo bp j) ∧
 (((!cw) && ai) = false →
 K (d5 d) bn bo bp j))) (fun ad => ?_) (fun ad => ?_) ?_
       ·replace h := h.1 ad
        have av := ad
        simp only [g7 av]
        refine i6 Tryz.call63 (h g0 aa ax ab ay ac az cx cy cz) ((((dt.bring 3).bring 3).bring 3).bring 3) ?_
        rintro _ j _ bq br dv dw ⟨ai, rfl, rfl, h⟩
        exact ⟨ai, j, by rfl, br, dw, dv, h⟩
       ·exact ⟨false, dr, by rw [a3E ad], ((((dt.bring 3).bring 3).bring 3).bring 3), fun _ _ _ => rfl, Hle.refl _, h.2 ad⟩
       ·clear h
        rintro du bq ⟨ai, j, rfl, br, dw, dv, h⟩
        refine a8 (v7 _ _) ?_
        refine m5 h (fun _ h => ?_) (fun _ h => ?_)
        ·refine a8 (m3 _) (a8 a8K ?_)
         refine o4 br Tryz.sizeOf4 (vs := [(vB true)]) (cs' := [(vs d.fscript), (vi d.fleft), (vB true), (vB d.fout), (vi d.fo.u6), (vi d.fo.u1), (vi d.fo.s7), (vs aa), (vs ab), (vs ac), (vs d.fnames), (vs d.flists), (vi d.ftaken)]) rfl rfl (nb rfl) rfl rfl fun km ie kn => ?_
         refine a8 (m3 _) (a8 O2 (a8 a5u ?_))
         refine o4 ie Tryz.sizeOf3 (vs := [(vi 2)]) (cs' := [(vs d.fscript), (vi d.fleft), (vB true), (vB d.fout), (vi 2), (vi d.fo.u1), (vi d.fo.s7), (vs aa), (vs ab), (vs ac), (vs d.fnames), (vs d.flists), (vi d.ftaken)]) rfl rfl (nb rfl) rfl rfl fun ko ig kp => ?_
         exact hR _ j _ _ (((((ig.bring 4).drop.bring 3).bring 3).bring 3).bring 3) ⟨(b8.mk d.fscript d.fleft true d.fout (i5.mk 2 d.fo.u1 d.fo.s7 (Sl.mk none 0 0) (Sl.mk none 0 0) (Sl.mk none 0 0)) d.fnames d.flists d.ftaken), bn, bo, bp, aa, ax, ab, ay, ac, az, rfl, rfl, cx, cy, cz, h⟩
        ·exact hR _ j _ _ (((((br.bring 4).drop.bring 3).bring 3).bring 3).bring 3) ⟨(d5 d), bn, bo, bp, aa, ax, ab, ay, ac, az, rfl, rfl, cx, cy, cz, h⟩
      ·replace h := h.2 cu
       refine a8 pEq ?_
       refine f6 h (fun _ h => ?_) (fun _ h => ?_)
       ·refine a8 V7 (b6 (l1 Tryz.isAgg57 g rfl) ?_)
        obtain ⟨ih, ii, ij, da, h⟩ := h
        obtain ⟨kq, kr, ik, da⟩ := da
        refine a8 (P6 ik _ _ _ _ ih ii) (b6 (ldA (vs := (h9 ij)) Tryz.isAgg59 Tryz.sizeOf59 rfl (g.atH da)) ?_)
        refine i6 Tryz.call108 (h g0 k m o p q r t u v) ((((g.bring 4).bring 4).bring 4).bring 4) ?_
        rintro _ _ _ ks il _ _ ⟨dx, kt, ku, kv, kw, im, io, ip, iq, ir, it, rfl, rfl, iu, iv, iw, h⟩
        refine i6 Tryz.call105 (h g0 im io ip iq ir it iu iv iw) ((((il.bring 3).bring 3).bring 3).bring 3) ?_
        rintro _ dy _ kx db _ _ ⟨ky, dc, dd, dz, ea, eb, ix, bs, de, bt, df, rfl, rfl, ec, dg, dh, h⟩
        refine a8 (G3 _) ?_
        refine m5 h (fun _ h => ?_) (fun _ h => ?_)
        ·exact hR _ dy _ _ (((((db.bring 4).drop.bring 3).bring 3).bring 3).bring 3) ⟨(d5 dc), dd, dz, ea, eb, ix, bs, de, bt, df, rfl, rfl, ec, dg, dh, h⟩
        ·refine a8 (m3 _) (a8 O2 (a8 a3Y (b6 (l1 Tryz.isAgg39 db rfl) (a8 (c1H _) ?_))))
         refine a2l (e := 95) (c := r8) (xs := [(d7.mk false 0 dx)]) db (b4G _ _ _) rfl rfl a2Y a2Z (nb rfl) fun kz la lb iy ed lc => ?_
         obtain ⟨iz, h⟩ := h
         refine b6t (s := eb) (xs := dd) (ed.bring 2) ec (iy.srcO ((ed.bring 2).bring 1)) iz fun bu ee ld ef ja le => ?_
         refine a8 (m3 _) (a8 O2 (a8 a3Y ?_))
         refine o4 ((ja.bring 1).drop.bring 1) Tryz.sizeOf39 (vs := [(vs bu)]) (cs' := (p9 dc bu bs bt)) rfl rfl (nb rfl) rfl rfl fun lf eg lg => ?_
         refine a8 (G3 _) ?_
         refine m5 h (fun _ h => ?_) (fun _ h => ?_)
         ·refine i6 Tryz.call109 (h g0 bu ee bs de bt df ef dg dh) ((((eg.bring 3).bring 3).bring 3).bring 3) ?_
          rintro _ jb _ lh jc _ _ ⟨jd, je, jf, jg, jh, ji, jj, jk, jl, jm, rfl, rfl, jn, jo, jp, h⟩
          exact hR _ jb _ _ (((((jc.bring 4).drop.bring 3).bring 3).bring 3).bring 3) ⟨(d5 jd), je, jf, jg, jh, ji, jj, jk, jl, jm, rfl, rfl, jn, jo, jp, h⟩
         ·exact hR _ dy _ _ (((((eg.bring 4).drop.bring 3).bring 3).bring 3).bring 3) ⟨(d5 dc), (dd ++ [(d7.mk false 0 dx)]), dz, ea, bu, ee, bs, de, bt, df, rfl, rfl, ef, dg, dh, h⟩
       ·exact hR _ H _ _ ((((g.drop.bring 3).bring 3).bring 3).bring 3) ⟨(d5 x0), ba, bb, bc, k, m, o, p, q, r, rfl, rfl, t, u, v, h⟩
def Q4 (c0X : Sl) (a3B : Int) (L6 : Sl) (L8 : Int) (L9 : Bool) (M0 : Bool) (C6 : Int) (C7 : Int) (C8 : Int) (C2 : (List d7)) (C3 : (List Int)) (C4 : (List (List Int))) (M1 : Sl) (M2 : Sl) (M3 : Int) (H : Hp) (n1 : (Int × Sl × Int × Bool × Bool × Int × Int × Int × (List d7) × (List Int) × (List (List Int)) × Sl × Sl × Int) → Hp → Prop) (K : b8 → (List d7) → (List Int) → (List (List Int)) → Hp → Prop) : Prop :=
 TG ((decide (a3B < (c0X.n : Int))) = true) (u0 (b8.mk L6 L8 L9 M0 (i5.mk C6 C7 C8 (Sl.mk none 0 0) (Sl.mk none 0 0) (Sl.mk none 0 0)) M1 M2 M3) C2 C3 C4 H) false H (fun (c : Bool) (b : Hp) =>
 (((decide (a3B < (c0X.n : Int))) && c) = true →
 (0 : Int) ≤ a3B ∧ (a3B : Int) < c0X.n ∧ ∃ d : m7, EltH b c0X a3B 6 (f8 d) ∧
 a0Q (b8.mk L6 L8 L9 M0 (i5.mk C6 C7 C8 (Sl.mk none 0 0) (Sl.mk none 0 0) (Sl.mk none 0 0)) M1 M2 M3) C2 C3 C4 d b (fun (a : b8) (e : (List d7)) (f : (List Int)) (g : (List (List Int))) (i : Hp) =>
 n1 ((IntKind.wrap .i64 (a3B + 1)), a.fscript, a.fleft, a.fended, a.fout, a.fo.u6, a.fo.u1, a.fo.s7, e, f, g, a.fnames, a.flists, a.ftaken) i)) ∧
 (((decide (a3B < (c0X.n : Int))) && c) = false →
 K (b8.mk L6 L8 L9 M0 (i5.mk C6 C7 C8 (Sl.mk none 0 0) (Sl.mk none 0 0) (Sl.mk none 0 0)) M1 M2 M3) C2 C3 C4 b))
def a2S (x0 : b8) (a : (List d7)) (b : (List Int)) (c : (List (List Int))) (x1 : Sl) (H : Hp) (K : b8 → (List d7) → (List Int) → (List (List Int)) → Hp → Prop) : Prop :=
 TL ((0, x0.fscript, x0.fleft, x0.fended, x0.fout, x0.fo.u6, x0.fo.u1, x0.fo.s7, a, b, c, x0.fnames, x0.flists, x0.ftaken) : Int × Sl × Int × Bool × Bool × Int × Int × Int × (List d7) × (List Int) × (List (List Int)) × Sl × Sl × Int) H fun (s : Int × Sl × Int × Bool × Bool × Int × Int × Int × (List d7) × (List Int) × (List (List Int)) × Sl × Sl × Int) H n1 => Q4 x1 s.1 s.2.1 s.2.2.1 s.2.2.2.1 s.2.2.2.2.1 s.2.2.2.2.2.1 s.2.2.2.2.2.2.1 s.2.2.2.2.2.2.2.1 s.2.2.2.2.2.2.2.2.1 s.2.2.2.2.2.2.2.2.2.1 s.2.2.2.2.2.2.2.2.2.2.1 s.2.2.2.2.2.2.2.2.2.2.2.1 s.2.2.2.2.2.2.2.2.2.2.2.2.1 s.2.2.2.2.2.2.2.2.2.2.2.2.2 H n1 K
theorem a9n (x0 o p q x1) {H K} (h : a2S x0 o p q x1 H K) : E2 x0 o p q x1 H K := by
 intro g0 af ag ah ai aj ak al am an
 refine Ct.of fun w0 w ps0 H0 R E I hR => d3b ?_
 unfold a2S at h
 unfold F38
 obtain ⟨r, g, ao, ap⟩ := h
 refine y7 (J := fun n l w => ∃ (s : Int × Sl × Int × Bool × Bool × Int × Int × Int × (List d7) × (List Int) × (List (List Int)) × Sl × Sl × Int) (H : Hp) (a1f : Sl) (a1g : Frag) (a1h : Sl) (a1i : Frag) (a1j : Sl) (a1k : Frag) , n = g s ∧ l = (match s with | (a3B, L6, L8, L9, M0, C6, C7, C8, C2, C3, C4, M1, M2, M3) => [(vi a3B)]) ∧ (match s with | (a3B, L6, L8, L9, M0, C6, C7, C8, C2, C3, C4, M1, M2, M3) => RowL 95 3 r8 a1f C2 a1g) ∧ (match s with | (a3B, L6, L8, L9, M0, C6, C7, C8, C2, C3, C4, M1, M2, M3) => RowL 2 1 t6 a1h C3 a1i) ∧ (match s with | (a3B, L6, L8, L9, M0, C6, C7, C8, C2, C3, C4, M1, M2, M3) => RowsL 37 2 1 t6 a1j C4 a1k) ∧ (match s with | (a3B, L6, L8, L9, M0, C6, C7, C8, C2, C3, C4, M1, M2, M3) => Inv w0 ps0 H0 H [bx g0 91 [(vs L6), (vi L8), (vB L9), (vB M0), (vi C6), (vi C7), (vi C8), (vs a1f), (vs a1h), (vs a1j), (vs M1), (vs M2), (vi M3)], a1g, a1i, a1k] w) ∧ r s H) ⟨_, (0, x0.fscript, x0.fleft, x0.fended, x0.fout, x0.fo.u6, x0.fo.u1, x0.fo.s7, o, p, q, x0.fnames, x0.flists, x0.ftaken), H, af, ag, ah, ai, aj, ak, rfl, rfl, al, am, an, ((((I.bring 3).bring 3).bring 3).bring 3), ao⟩ ?_
 rintro bg bh w next1 ⟨⟨a3B, L6, L8, L9, M0, C6, C7, C8, C2, C3, C4, M1, M2, M3⟩, H, a1f, a1g, a1h, a1i, a1j, a1k, rfl, t, a6o, a6p, a6q, I, aq⟩ hn1
 dsimp only at t I a6o a6p a6q
 simp only [List.map_cons, List.map_nil, List.cons.injEq, and_true] at t
 have e4 := t
 simp only [e4]
 obtain ⟨n1, hm1, h⟩ : ∃ n1 : (Int × Sl × Int × Bool × Bool × Int × Int × Int × (List d7) × (List Int) × (List (List Int)) × Sl × Sl × Int) → Hp → Prop, (∀ s' H', n1 s' H' → r s' H' ∧ g s' < g (a3B, L6, L8, L9, M0, C6, C7, C8, C2, C3, C4, M1, M2, M3)) ∧ Q4 x1 a3B L6 L8 L9 M0 C6 C7 C8 C2 C3 C4 M1 M2 M3 H n1 K := ⟨_, fun _ _ h => h, ap (a3B, L6, L8, L9, M0, C6, C7, C8, C2, C3, C4, M1, M2, M3) H (fun s' H' => r s' H' ∧ g s' < g (a3B, L6, L8, L9, M0, C6, C7, C8, C2, C3, C4, M1, M2, M3)) aq (fun _ _ a b => ⟨a, b⟩)⟩
 unfold c5D
 unfold Q4 at h
 refine a8 (a0h _ _ _) (a8 pLs ?_)
 simp only [t8]
 refine a0i (D := fun ab k => ∃ (f : Bool) (d : Hp) , ab = (gv (decide (a3B < (x1.n : Int))) true (vB f)) ∧ (Inv w0 ps0 H0 d [bx g0 91 [(vs L6), (vi L8), (vB L9), (vB M0), (vi C6), (vi C7), (vi C8), (vs a1f), (vs a1h), (vs a1j), (vs M1), (vs M2), (vi M3)], a1g, a1i, a1k] k) ∧ (∀ i, i < w.heap.size → ¬ inF [bx g0 91 [(vs L6), (vi L8), (vB L9), (vB M0), (vi C6), (vi C7), (vi C8), (vs a1f), (vs a1h), (vs a1j), (vs M1), (vs M2), (vi M3)], a1g, a1i, a1k] i → k.heap[i]? = w.heap[i]?) ∧ Hle H d ∧ ((((decide (a3B < (x1.n : Int))) && f) = true →
 (0 : Int) ≤ a3B ∧ (a3B : Int) < x1.n ∧ ∃ m : m7, EltH d x1 a3B 6 (f8 m) ∧
 a0Q (b8.mk L6 L8 L9 M0 (i5.mk C6 C7 C8 (Sl.mk none 0 0) (Sl.mk none 0 0) (Sl.mk none 0 0)) M1 M2 M3) C2 C3 C4 m d (fun (c : b8) (u : (List d7)) (v : (List Int)) (y : (List (List Int))) (z : Hp) =>
 n1 ((IntKind.wrap .i64 (a3B + 1)), c.fscript, c.fleft, c.fended, c.fout, c.fo.u6, c.fo.u1, c.fo.s7, u, v, y, c.fnames, c.flists, c.ftaken) z)) ∧
 (((decide (a3B < (x1.n : Int))) && f) = false →
 K (b8.mk L6 L8 L9 M0 (i5.mk C6 C7 C8 (Sl.mk none 0 0) (Sl.mk none 0 0) (Sl.mk none 0 0)) M1 M2 M3) C2 C3 C4 d))) (fun e => ?_) (fun e => ?_) ?_
 ·replace h := h.1 e
  have ac := e
  simp only [g7 ac]
  refine i6 Tryz.call63 (h g0 a1f a1g a1h a1i a1j a1k a6o a6p a6q) ((((I.bring 3).bring 3).bring 3).bring 3) ?_
  rintro _ d _ k j ad ae ⟨f, rfl, rfl, h⟩
  exact ⟨f, d, by rfl, j, ae, ad, h⟩
 ·exact ⟨false, H, by rw [a3E e], ((((I.bring 3).bring 3).bring 3).bring 3), fun _ _ _ => rfl, Hle.refl _, h.2 e⟩
 ·clear h
  rintro ab k ⟨f, d, rfl, j, ae, ad, h⟩
  refine a8 (v7 _ _) ?_
  refine m5 h (fun _ h => ?_) (fun _ h => ?_)
  ·obtain ⟨ar, au, m, aa, h⟩ := h
   obtain ⟨bi, bj, av, aa⟩ := aa
   refine a8 (a4s av _ _ _ _ ar au) (b6 (ldA (vs := (f8 m)) Tryz.isAgg73 Tryz.sizeOf73 rfl (j.atH aa)) ?_)
   refine i6 Tryz.call64 (h g0 a1f a1g a1h a1i a1j a1k a6o a6p a6q) ((((j.bring 3).bring 3).bring 3).bring 3) ?_
   rintro _ z _ bk aw _ _ ⟨c, u, v, y, ax, ay, az, ba, bb, bc, rfl, rfl, bd, be, bf, h⟩
   refine a8 pAd ?_
   exact hn1 _ _ _ (hm1 _ _ h).2 ⟨((IntKind.wrap .i64 (a3B + 1)), c.fscript, c.fleft, c.fended, c.fout, c.fo.u6, c.fo.u1, c.fo.s7, u, v, y, c.fnames, c.flists, c.ftaken), z, ax, ay, az, ba, bb, bc, rfl, rfl, bd, be, bf, ((((aw.bring 3).bring 3).bring 3).bring 3), (hm1 _ _ h).1⟩
  ·exact hR _ d _ _ ((((j.bring 3).bring 3).bring 3).bring 3) ⟨(b8.mk L6 L8 L9 M0 (i5.mk C6 C7 C8 (Sl.mk none 0 0) (Sl.mk none 0 0) (Sl.mk none 0 0)) M1 M2 M3), C2, C3, C4, a1f, a1g, a1h, a1i, a1j, a1k, rfl, rfl, a6o, a6p, a6q, h⟩
def C1 (p : Sl) (q : Int) (r : Bool) (s : Bool) (i : Int) (j : Int) (k : Int) (l : (List d7)) (m : (List Int)) (o : (List (List Int))) (t : Sl) (u : Sl) (v : Int) (y : i5) (z : o3) (H : Hp) (K : i5 → Int → Hp → Prop) : Prop :=
 ∀ (a : Sl) (e : Hp), Hle H e → SlH e 3 r8 a l → a.n ≤ a.c →
 ∀ (b : Sl) (f : Hp), Hle e f → SlH f 1 t6 b m → b.n ≤ b.c →
 ∀ (d : Sl) (g : Hp), Hle f g → SlHH g 1 t6 d o → d.n ≤ d.c →
 K (i5.mk i j k a b d) 0 g
def a1T (l : Sl) (m : Int) (o : Bool) (p : Bool) (q : Int) (r : Int) (s : Int) (t : (List d7)) (u : (List Int)) (v : (List (List Int))) (y : Sl) (z : (List ByteArray)) (aa : Int) (e : i5) (b : o3) (H : Hp) (K : i5 → Int → Hp → Prop) : Prop :=
 ∀ (d : Sl) (f : Hp), Hle H f → SlH f 1 C5 d z → d.n ≤ d.c →
 E2 (b8.mk l m o p (i5.mk q r s (Sl.mk none 0 0) (Sl.mk none 0 0) (Sl.mk none 0 0)) y d aa) t u v b.a2f f (fun (a : b8) (g : (List d7)) (i : (List Int)) (j : (List (List Int))) (k : Hp) =>
 (a.fout = true →
 C1 a.fscript a.fleft a.fended a.fout 1 a.fo.u1 a.fo.s7 g i j a.fnames a.flists a.ftaken e b k K) ∧
 (a.fout = false →
 ((!(a.fended)) = true →
 C1 a.fscript a.fleft a.fended a.fout 2 a.fo.u1 a.fo.s7 g i j a.fnames a.flists a.ftaken e b k K) ∧
 ((!(a.fended)) = false →
 C1 a.fscript a.fleft a.fended a.fout a.fo.u6 a.fo.u1 a.fo.s7 g i j a.fnames a.flists a.ftaken e b k K)))
def a1U (J9 : Sl) (q : (List Int)) (r : o3) (a4O : Int) (d : Sl) (e : Int) (f : Bool) (g : Bool) (i : Int) (j : Int) (k : Int) (l : (List d7)) (b : (List (List Int))) (m : Sl) (c : (List ByteArray)) (o : Int) (p : i5) (H : Hp) (n3 : (Int × Sl × Int × Bool × Bool × Int × Int × Int × (List d7) × (List (List Int)) × Sl × (List ByteArray) × Int × i5) → Hp → Prop) (K : i5 → Int → Hp → Prop) : Prop :=
 (a4O < (J9.n : Int) →
 (0 : Int) ≤ a4O ∧ (a4O : Int) < J9.n ∧ ∃ a : i8, EltH H J9 a4O 2 (o7 a) ∧
 (c.length + ([a.d9] : List ByteArray).length) * 17 ≤ 140737488355328 ∧
 (0 : Int) ≤ a.A4 ∧ a.A4 * 9 ≤ 140737488355328 ∧
 ((b : List (List Int)).length + ([List.replicate (a.A4 : Int).toNat 0] : List (List Int)).length) * 25 ≤ 140737488355328 ∧
 n3 ((IntKind.wrap .i64 (a4O + 1)), d, e, f, g, i, j, k, l, (b ++ [List.replicate (a.A4 : Int).toNat 0]), m, (c ++ [a.d9]), o, p) H) ∧
 (¬ (a4O < (J9.n : Int)) →
 a1T d e f g i j k l q b m c o p r H K)
def a5r (x0 : o3) (x1 : Sl) (x2 : Int) (H : Hp) (K : i5 → Int → Hp → Prop) : Prop :=
 a4c x0 H (fun g b c =>
 (¬ (b = 0) →
 K (i5.mk 0 0 0 (Sl.mk none 0 0) (Sl.mk none 0 0) (Sl.mk none 0 0)) b c) ∧
 (b = 0 →
 ((((decide (x2 < 0)) || (decide (65536 < x2))) || (decide (65536 < (x1.n : Int)))) = true →
 K (i5.mk 0 0 0 (Sl.mk none 0 0) (Sl.mk none 0 0) (Sl.mk none 0 0)) 80 c) ∧
 ((((decide (x2 < 0)) || (decide (65536 < x2))) || (decide (65536 < (x1.n : Int)))) = false →
 a4w x0 c (fun a d =>
 (0 : Int) ≤ (a.n : Int) ∧ (a.n : Int) * 9 ≤ 140737488355328 ∧
 a3H x0 d (fun e f =>
 TL ((0, x1, x2, false, false, 0, 0, 0, [], [], a, [], 0, (i5.mk 0 0 0 (Sl.mk none 0 0) (Sl.mk none 0 0) (Sl.mk none 0 0))) : Int × Sl × Int × Bool × Bool × Int × Int × Int × (List d7) × (List (List Int)) × Sl × (List ByteArray) × Int × i5) f fun (s : Int × Sl × Int × Bool × Bool × Int × Int × Int × (List d7) × (List (List Int)) × Sl × (List ByteArray) × Int × i5) H n3 => a1U e (List.replicate ((a.n : Int) : Int).toNat 0) x0 s.1 s.2.1 s.2.2.1 s.2.2.2.1 s.2.2.2.2.1 s.2.2.2.2.2.1 s.2.2.2.2.2.2.1 s.2.2.2.2.2.2.2.1 s.2.2.2.2.2.2.2.2.1 s.2.2.2.2.2.2.2.2.2.1 s.2.2.2.2.2.2.2.2.2.2.1 s.2.2.2.2.2.2.2.2.2.2.2.1 s.2.2.2.2.2.2.2.2.2.2.2.2.1 s.2.2.2.2.2.2.2.2.2.2.2.2.2 H n3 K)))))
theorem b1Y (x0 x1 x2) {H K} (h : a5r x0 x1 x2 H K) : a4V x0 x1 x2 H K := by
 refine Ct.of fun w0 w ps0 H0 R E I hR => d2Y ?_
 unfold a5r at h
 unfold F17
 refine F0 I (cs := (q7 x0)) rfl fun ax gg di gh => ?_
 refine B9 di Tryz.zeroValue42 (cs := [(vi 0), (vi 0), (vi 0), (nS), (nS), (nS)]) rfl fun an gi cp gj => ?_
 refine b6 (lW Tryz.isAgg25 Tryz.sizeOf25 rfl (cp.bring 1)) ?_
 refine i6 Tryz.call35 h cp ?_
 rintro _ cq _ gk ay _ _ ⟨dj, cr, rfl, rfl, h⟩
 refine a8 (m8 _ _ (Value.string dj) rfl) (a8 (m8 _ _ (vi cr) rfl) (a8 pNe ?_))
 refine a1v h (fun _ h => ?_) (fun _ h => ?_)
 ·refine a8 (b8x ) ?_
  refine o4 ay Tryz.sizeOf42 (vs := [(vi 0), (vi 0), (vi 0), (nS), (nS), (nS)]) (cs' := [(vi 0), (vi 0), (vi 0), (nS), (nS), (nS)]) rfl rfl (nb rfl) rfl rfl fun gl ct gm => ?_
  refine a6X Tryz.isAgg42 Tryz.sizeOf42 rfl (ct.at1 (o := 0) (vs := [(vi 0), (vi 0), (vi 0), (nS), (nS), (nS)]) (nb rfl) rfl) ?_
  exact hR _ cq _ _ ct.drop.drop ⟨(i5.mk 0 0 0 (Sl.mk none 0 0) (Sl.mk none 0 0) (Sl.mk none 0 0)), cr, rfl, rfl, h⟩
 ·refine a8 pLs ?_
  simp only [t8]
  refine a8 (Pu.g fun f => by simp only [g7 f]; exact pGt) ?_
  refine a8 (E8 _ _) ?_
  simp only [t8]
  refine a8 (Pu.g fun f => by simp only [g7 f]; exact (a4l _ _ _)) ?_
  refine a8 (Pu.g fun f => by simp only [g7 f]; exact pGt) ?_
  refine a8 (E8 _ _) ?_
  refine m5 h (fun _ h => ?_) (fun _ h => ?_)
  ·refine a8 (b8x ) ?_
   refine o4 ay Tryz.sizeOf42 (vs := [(vi 0), (vi 0), (vi 0), (nS), (nS), (nS)]) (cs' := [(vi 0), (vi 0), (vi 0), (nS), (nS), (nS)]) rfl rfl (nb rfl) rfl rfl fun gn cu go => ?_
   refine a6X Tryz.isAgg42 Tryz.sizeOf42 rfl (cu.at1 (o := 0) (vs := [(vi 0), (vi 0), (vi 0), (nS), (nS), (nS)]) (nb rfl) rfl) ?_
   exact hR _ cq _ _ cu.drop.drop ⟨(i5.mk 0 0 0 (Sl.mk none 0 0) (Sl.mk none 0 0) (Sl.mk none 0 0)), 80, rfl, rfl, h⟩
  ·refine b6 (lW Tryz.isAgg25 Tryz.sizeOf25 rfl (ay.bring 1)) ?_
   refine i6 Tryz.call36 h ay ?_
   rintro _ _ _ gp dk _ _ ⟨ao, rfl, rfl, h⟩
   refine a8 (b6r _ _ _ _ _ _ _) ?_
   refine F0 dk (cs := [(vs x1), (vi x2), (vB false), (vB false), (vi 0), (vi 0), (vi 0), (nS), (nS), (nS), (vs ao), (nS), (vi 0)]) rfl fun al gq cv gr => ?_
   refine a8 (m3 _) (a8 b3j (b6 (l1 Tryz.isAgg88 cv rfl) (a8 (b8y _ _ _) ?_)))
   obtain ⟨dl, dm, h⟩ := h
   refine c4y cv dl dm fun ag cw gs dn dp gt => ?_
   refine a8 (m3 _) (a8 O2 (a8 a2s ?_))
   refine o4 (dp.bring 1) Tryz.sizeOf37 (vs := [(vs ag)]) (cs' := [(vs x1), (vi x2), (vB false), (vB false), (vi 0), (vi 0), (vi 0), (nS), (vs ag), (nS), (vs ao), (nS), (vi 0)]) rfl rfl (nb rfl) rfl rfl fun gu cx gv => ?_
   refine b6 (lW Tryz.isAgg25 Tryz.sizeOf25 rfl (cx.bring 3)) ?_
   refine i6 Tryz.call37 h cx ?_
   rintro _ dq _ gw dr _ _ ⟨ds, rfl, rfl, h⟩
   have hj1 : ∀ (bl : Sl) (bm : Int) (bn : Bool) (bo : Bool) (bp : Int) (bq : Int) (br : Int) (bs : (List d7)) (bt : (List Int)) (bu : (List (List Int))) (bv : Sl) (bw : (List ByteArray)) (bz : Int) (ap : i5) (az : Sl) (ba : Frag) (bb : Frag) (bc : Sl) (bd : Frag) (be : Sl) (ca : Frag) (H : Hp) (w : World) (_ : RowL 95 3 r8 az bs ba) (_ : RowL 2 1 t6 ag bt bb) (_ : RowsL 37 2 1 t6 bc bu bd) (_ : RowL 9 1 C5 be bw ca) (_ : Inv w0 ps0 H0 H [bx al 91 [(vs bl), (vi bm), (vB bn), (vB bo), (vi bp), (vi bq), (vi br), (vs az), (vs ag), (vs bc), (vs bv), (vs be), (vi bz)], bx an 42 (m9 ap), bx ax 25 (q7 x0), ba, bb, bd, ca] w) (_ : a1T bl bm bn bo bp bq br bs bt bu bv bw bz ap x0 H K), c0T (Value.pointer (some ⟨ax, 0, none⟩)) (Value.pointer (some ⟨an, 0, none⟩)) (Value.pointer (some ⟨al, 0, none⟩)) w R E := by
    intro bl bm bn bo bp bq br bs bt bu bv bw bz ap az ba bb bc bd be ca H w dt du dv dw I h
    unfold c0T
    intro _
    unfold a1T at h
    refine a8 a3X (b6 (l1 Tryz.isAgg23 (I.bring 2) rfl) ?_)
    obtain ⟨dx, dy, dz, ea, eb⟩ := Inv.freezeC (I.bring 6) dw (by decide)
    replace h := h be dx dz ea eb
    refine i6 Tryz.call38 (h al az ba ag bb bc bd dt du dv) ((((dy.bring 5).bring 5).bring 5).bring 3) ?_
    rintro _ cb _ gx aq _ _ ⟨d, ec, ed, ee, ad, ef, ae, eg, af, eh, rfl, rfl, ei, ej, ek, h⟩
    have hj2 : ∀ (cc : Sl) (cd : Int) (ce : Bool) (cf : Bool) (ah : Int) (ai : Int) (aj : Int) (cg : Sl) (ch : Sl) (ci : Int) H w (_ : Inv w0 ps0 H0 H [bx al 91 [(vs cc), (vi cd), (vB ce), (vB cf), (vi ah), (vi ai), (vi aj), (vs ad), (vs ae), (vs af), (vs cg), (vs ch), (vi ci)], bx an 42 (m9 ap), bx ax 25 (q7 x0), ef, eg, eh] w) (_ : C1 cc cd ce cf ah ai aj ec ed ee cg ch ci ap x0 H K), c0S (Value.pointer (some ⟨an, 0, none⟩)) (Value.pointer (some ⟨al, 0, none⟩)) w R E := by
     intro cc cd ce cf ah ai aj cg ch ci H w I h
     unfold c0S
     intro _
     unfold C1 at h
     refine a8 (m3 _) (a8 O2 (b6 (ldA Tryz.isAgg42 Tryz.sizeOf42 rfl (I.at1 (o := 4) (vs := [(vi ah), (vi ai), (vi aj), (vs ad), (vs ae), (vs af)]) (nb rfl) rfl)) ?_))
     refine o4 (I.bring 1) Tryz.sizeOf42 (vs := [(vi ah), (vi ai), (vi aj), (vs ad), (vs ae), (vs af)]) (cs' := [(vi ah), (vi ai), (vi aj), (vs ad), (vs ae), (vs af)]) rfl rfl (nb rfl) rfl rfl fun gy cy gz => ?_
     refine a6X Tryz.isAgg42 Tryz.sizeOf42 rfl (cy.at1 (o := 0) (vs := [(vi ah), (vi ai), (vi aj), (vs ad), (vs ae), (vs af)]) (nb rfl) rfl) ?_
     obtain ⟨el, em, en, eo, ep⟩ := Inv.freezeC (cy.bring 3) ei (by decide)
     replace h := h ad el en eo ep
     obtain ⟨eq, er, es, et, eu⟩ := Inv.freezeC (em.bring 3) ej (by decide)
     replace h := h ae eq es et eu
     obtain ⟨cz, ev, ew, ex, ey⟩ := Inv.freezeLL (er.bring 3) ek (by decide)
     replace h := h af cz ew ex ey
     exact hR _ cz _ _ ev.drop.drop.drop ⟨(i5.mk ah ai aj ad ae af), 0, rfl, rfl, h⟩
    refine r5 fun j2 hx2 => ?_
    refine a8 (m3 _) (a8 b3k (b6 (l1 Tryz.isAgg4 aq rfl) ?_))
    refine m5 h (fun _ h => ?_) (fun _ h => ?_)
    ·refine a8 (m3 _) (a8 O2 (a8 a5u ?_))
     refine o4 aq Tryz.sizeOf3 (vs := [(vi 1)]) (cs' := [(vs d.fscript), (vi d.fleft), (vB d.fended), (vB d.fout), (vi 1), (vi d.fo.u1), (vi d.fo.s7), (vs ad), (vs ae), (vs af), (vs d.fnames), (vs d.flists), (vi d.ftaken)]) rfl rfl (nb rfl) rfl rfl fun ha ez hc => ?_
     exact hx2 _ _ (hj2 d.fscript d.fleft d.fended d.fout 1 d.fo.u1 d.fo.s7 d.fnames d.flists d.ftaken cb _ ((((((ez.bring 3).bring 3).bring 3).bring 5).bring 5).bring 5) h)
    ·refine a8 (m3 _) (a8 a8K (b6 (l1 Tryz.isAgg4 aq rfl) (a8 (G3 _) ?_)))
     refine m5 h (fun _ h => ?_) (fun _ h => ?_)
     ·refine a8 (m3 _) (a8 O2 (a8 a5u ?_))
      refine o4 aq Tryz.sizeOf3 (vs := [(vi 2)]) (cs' := [(vs d.fscript), (vi d.fleft), (vB d.fended), (vB d.fout), (vi 2), (vi d.fo.u1), (vi d.fo.s7), (vs ad), (vs ae), (vs af), (vs d.fnames), (vs d.flists), (vi d.ftaken)]) rfl rfl (nb rfl) rfl rfl fun hd fa he => ?_
      exact hx2 _ _ (hj2 d.fscript d.fleft d.fended d.fout 2 d.fo.u1 d.fo.s7 d.fnames d.flists d.ftaken cb _ ((((((fa.bring 3).bring 3).bring 3).bring 5).bring 5).bring 5) h)
     ·exact hx2 _ _ (hj2 d.fscript d.fleft d.fended d.fout d.fo.u6 d.fo.u1 d.fo.s7 d.fnames d.flists d.ftaken cb _ ((((((aq.bring 3).bring 3).bring 3).bring 5).bring 5).bring 5) h)
   refine r5 fun j1 hx1 => ?_
   obtain ⟨cj, ar, fb, fc⟩ := h
   refine y7 (J := fun n l w => ∃ (s : Int × Sl × Int × Bool × Bool × Int × Int × Int × (List d7) × (List (List Int)) × Sl × (List ByteArray) × Int × i5) (H : Hp) (ak : Sl) (au : Frag) (am : Sl) (bf : Frag) (av : Sl) (bg : Frag) , n = ar s ∧ l = (match s with | (a4O, i, j, m, p, q, r, t, aa, ab, u, z, y, ac) => [(vi a4O)]) ∧ (match s with | (a4O, i, j, m, p, q, r, t, aa, ab, u, z, y, ac) => RowL 95 3 r8 ak aa au) ∧ (match s with | (a4O, i, j, m, p, q, r, t, aa, ab, u, z, y, ac) => RowsL 37 2 1 t6 am ab bf) ∧ (match s with | (a4O, i, j, m, p, q, r, t, aa, ab, u, z, y, ac) => RowL 9 1 C5 av z bg) ∧ (match s with | (a4O, i, j, m, p, q, r, t, aa, ab, u, z, y, ac) => Inv w0 ps0 H0 H [bx al 91 [(vs i), (vi j), (vB m), (vB p), (vi q), (vi r), (vi t), (vs ak), (vs ag), (vs am), (vs u), (vs av), (vi y)], bx an 42 (m9 ac), bx ax 25 (q7 x0), cw, au, bf, bg] w) ∧ cj s H) ⟨_, (0, x1, x2, false, false, 0, 0, 0, [], [], ao, [], 0, (i5.mk 0 0 0 (Sl.mk none 0 0) (Sl.mk none 0 0) (Sl.mk none 0 0))), dq, (Sl.mk none 0 0), [], (Sl.mk none 0 0), [], (Sl.mk none 0 0), [], rfl, rfl, (RowL.nil a2Y a2Z), (RowsL.nil b6p b6q), (RowL.nil a6z a6A), ((((((dr.nil.nil.nil.bring 1).bring 2).bring 4).bring 6).bring 6).bring 6), fb⟩ ?_
   rintro hf hg w next3 ⟨⟨a4O, i, j, m, p, q, r, t, aa, ab, u, z, y, ac⟩, H, ak, au, am, bf, av, bg, rfl, ck, cl, cm, cn, I, fd⟩ hn3
   dsimp only at ck I cl cm cn
   simp only [List.map_cons, List.map_nil, List.cons.injEq, and_true] at ck
   have e12 := ck
   simp only [e12]
   obtain ⟨n3, hm3, h⟩ : ∃ n3 : (Int × Sl × Int × Bool × Bool × Int × Int × Int × (List d7) × (List (List Int)) × Sl × (List ByteArray) × Int × i5) → Hp → Prop, (∀ s' H', n3 s' H' → cj s' H' ∧ ar s' < ar (a4O, i, j, m, p, q, r, t, aa, ab, u, z, y, ac)) ∧ a1U ds (List.replicate ((ao.n : Int) : Int).toNat 0) x0 a4O i j m p q r t aa ab u z y ac H n3 K := ⟨_, fun _ _ h => h, fc (a4O, i, j, m, p, q, r, t, aa, ab, u, z, y, ac) H (fun s' H' => cj s' H' ∧ ar s' < ar (a4O, i, j, m, p, q, r, t, aa, ab, u, z, y, ac)) fd (fun _ _ a b => ⟨a, b⟩)⟩
   unfold c5z
   unfold a1U at h
   refine a8 (a3w _ _ _) (a8 pLs ?_)
   refine f6 h (fun _ h => ?_) (fun _ h => ?_)
   ·refine U6 I fun hh bh => ?_
    refine j8 (m3 _) ?_
    refine j8 b0i ?_
    obtain ⟨da, db, aw, bi, h⟩ := h
    obtain ⟨hi, hj, dc, bi⟩ := bi
    refine j8 (a1x dc _ _ _ _ da db) ?_
    refine j8 Q5 ?_
    refine u7 (l1 Tryz.isAgg88 bh rfl) ?_
    refine u7 (ld1 (v := (Value.string aw.d9)) Tryz.isAgg9 ((bh.atH bi).sub (k := 0) (n := 1) (nb rfl))) ?_
    refine a2l (e := 9) (c := C5) (xs := [aw.d9]) bh (b7d _) rfl rfl a6z a6A (nb rfl) fun hk hl hm fe dd ff => ?_
    refine ⟨(ff _ bh.lt1), ?_⟩
    obtain ⟨fg, h⟩ := h
    refine b9I (s := av) (xs := z) (dd.bring 7) cn (fe.srcO ((dd.bring 7).bring 1)) fg fun bj fh hn fi fj ho => ?_
    refine j8 (m3 _) ?_
    refine j8 b0i ?_
    refine o4 ((fj.bring 1).drop.bring 1) Tryz.sizeOf88 (vs := [(vs bj)]) (cs' := [(vs i), (vi j), (vB m), (vB p), (vi q), (vi r), (vi t), (vs ak), (vs ag), (vs am), (vs u), (vs bj), (vi y)]) rfl rfl (nb rfl) rfl rfl fun hp fk hq => ?_
    refine U6 fk fun hr bk => ?_
    refine j8 (m3 _) ?_
    refine j8 O2 ?_
    refine j8 a0j ?_
    refine j8 (a1x dc _ _ _ _ da db) ?_
    refine j8 V9 ?_
    refine u7 (l1 Tryz.isAgg40 bk rfl) ?_
    refine u7 (ld1 (v := (vi aw.A4)) Tryz.isAgg3 ((bk.atH bi).sub (k := 1) (n := 1) (nb rfl))) ?_
    obtain ⟨fl, fm, h⟩ := h
    refine c4y bk fl fm fun fn hs ht fp de fq => ?_
    refine ⟨(fq _ bk.lt1), ?_⟩
    refine a2l (e := 37) (c := csl) (xs := [fn]) de (c8h _ _ _) rfl rfl b3e b3f (nb rfl) fun hu hv hw fs ft fu => ?_
    refine ⟨(fu _ (de.bring 1).lt1), ?_⟩
    obtain ⟨fv, h⟩ := h
    obtain ⟨fw, hx, fx, fy, df, fz⟩ := RowsL.split cm (((ft.bring 1).bring 1).d4e.bring 7)
    obtain ⟨hy, hz, ga, gb, dg, dh⟩ := RowsL.split (RowsL.one fs fp) (fz.bring 2)
    refine d0X (s := am) (xs := fw) (dh.bring 2) fy (gb.srcO ((dh.bring 2).bring 1)) (by rw [df.len, dg.len]; exact fv) fun co gc ia gd ge ib => ?_
    refine j8 (m3 _) ?_
    refine j8 O2 ?_
    refine j8 a0j ?_
    refine o4 (((((ge.bring 1).drop.bring 1).bring 2).bring 2).b6m.bring 1) Tryz.sizeOf40 (vs := [(vs co)]) (cs' := [(vs i), (vi j), (vB m), (vB p), (vi q), (vi r), (vi t), (vs ak), (vs ag), (vs co), (vs u), (vs bj), (vi y)]) rfl rfl (nb rfl) rfl rfl fun ic gf id => ?_
    refine a8 pAd ?_
    exact hn3 _ _ _ (hm3 _ _ h).2 ⟨((IntKind.wrap .i64 (a4O + 1)), i, j, m, p, q, r, t, aa, (ab ++ [List.replicate (aw.A4 : Int).toNat 0]), u, (z ++ [aw.d9]), y, ac), H, ak, au, co, (gc ++ (fx ++ ga)), bj, fh, rfl, rfl, cl, (RowsL.app gd df dg), fi, (((((((gf.bring 2).bring 2).bring 6).bring 6).bring 6).bring 6).bring 6), (hm3 _ _ h).1⟩
   ·exact hx1 _ _ (hj1 i j m p q r t aa (List.replicate ((ao.n : Int) : Int).toNat 0) ab u z y ac ak au cw am bf av bg H _ cl dn cm cn (((((((I.bring 6).bring 6).bring 5).bring 6).bring 6).bring 6).bring 6) h)
def a8C (x0 : m2) (H : Hp) (K : Int → Bool → Hp → Prop) : Prop :=
 (x0.b7 = 1 →
 K x0.C9 true H) ∧
 (¬ (x0.b7 = 1) →
 ∃ a : m2, ((decide (x0.b7 = 5)) = true → (0 : Int) ≤ 0 ∧ (0 : Int) < x0.z8.n ∧ EltH H x0.z8 0 4 (f4 a)) ∧
 (((decide (x0.b7 = 5)) && (decide (a.b7 = 1))) = true →
 (0 : Int) ≤ 0 ∧ (0 : Int) < x0.z8.n ∧ ∃ b : m2, EltH H x0.z8 0 4 (f4 b) ∧
 K (IntKind.wrap .i64 (0 - b.C9)) true H) ∧
 (((decide (x0.b7 = 5)) && (decide (a.b7 = 1))) = false →
 K 0 false H))
theorem b2V (x0) {H K} (h : a8C x0 H K) : a8t x0 H K := by
 refine Ct.of fun w0 w ps0 H0 R E I hR => d0n ?_
 unfold a8C at h
 unfold d3v
 refine F0 I (cs := (f4 x0)) rfl fun m o b p => ?_
 refine a8 K8 (b6 (l1 Tryz.isAgg3 b rfl) (a8 pEq ?_))
 refine f6 h (fun _ h => ?_) (fun _ h => ?_)
 ·refine a8 a5v (b6 (l1 Tryz.isAgg2 b rfl) ?_)
  exact hR _ H _ _ b.drop ⟨x0.C9, true, rfl, rfl, h⟩
 ·refine a8 K8 (b6 (l1 Tryz.isAgg3 b rfl) (a8 pEq ?_))
  refine a8 (Pu.g fun a => by exact P5) ?_
  refine b6 (Ld.g fun a => by simp only [g7 a]; exact (l1 Tryz.isAgg51 b rfl)) ?_
  obtain ⟨d, c, h⟩ := h
  obtain ⟨q, r, c⟩ := b3d c
  refine a8 (Pu.g fun hb => by have a := hb; simp only [g7 a]; exact (K9 (c hb).2.2.1 _ _ _ _ (c hb).1 (c hb).2.1)) ?_
  refine a8 (Pu.g fun a => by simp only [g7 a]; exact K8) ?_
  refine b6 (Ld.g fun hb => by have a := hb; simp only [g7 a]; exact (ld1 (v := (vi d.b7)) Tryz.isAgg3 ((b.atH (c hb).2.2.2).sub (k := 0) (n := 1) (nb rfl)))) ?_
  refine a8 (Pu.g fun a => by simp only [g7 a]; exact pEq) ?_
  refine a8 (v7 _ _) ?_
  refine m5 h (fun _ h => ?_) (fun _ h => ?_)
  ·refine a8 P5 (b6 (l1 Tryz.isAgg51 b rfl) ?_)
   obtain ⟨i, j, f, e, h⟩ := h
   obtain ⟨s, t, l, e⟩ := e
   refine a8 (K9 l _ _ _ _ i j) (a8 a5v (b6 (ld1 (v := (vi f.C9)) Tryz.isAgg2 ((b.atH e).sub (k := 1) (n := 1) (nb rfl))) (a8 (b6j _ _) ?_)))
   exact hR _ H _ _ b.drop ⟨(IntKind.wrap .i64 (0 - f.C9)), true, rfl, rfl, h⟩
  ·exact hR _ H _ _ b.drop ⟨0, false, rfl, rfl, h⟩
end Go.Proofs.YtnhkdkcgdcgmdaaGreatDoor
