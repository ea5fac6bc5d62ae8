/- Typed formulas of the program's functions, and the theorems that the contracts follow from them; printed by lift.py off the code. -/
import Derived.Test.YthklmeihgmcljaaGreatDoorzTV1
namespace Go.Proofs.YthklmeihgmcljaaGreatDoor
open Go.RowKit
set_option maxRecDepth 100000
set_option maxHeartbeats 2000000
def W7 (u5 : b6) (a : b9) (b : b9) (H : Hp) (K : b9 → b6 → Hp → Prop) : Prop :=
 K a u5 H
def R4 (a0g : Int) (H9 : Int) (p5 : b6) (d : b9) (e : b9) (H : Hp) (n2 : (Int × b6 × b9 × b9) → Hp → Prop) (K : b9 → b6 → Hp → Prop) : Prop :=
 (¬ (H9 = 0) →
 Y9 (b6.mk p5.fl (IntKind.wrap .i64 (p5.fat + 1)) p5.fbad p5.fpos) a0g H (fun g f i =>
 N7 f i (fun j k =>
 ∀ (a : Sl) (b : Hp), Hle k b → SlH b 4 d9 a [d, g] → a.n ≤ a.c →
 n2 (j, f, (b9.mk H9 0 ⟨#[]⟩ a), e) b))) ∧
 (H9 = 0 →
 W7 p5 d e H K)
def Z1 (x0 : b6) (x1 : Int) (H : Hp) (K : b9 → b6 → Hp → Prop) : Prop :=
 Y9 x0 x1 H (fun b a c =>
 N7 a c (fun d e =>
 TL ((d, a, b, (b9.mk 0 0 ⟨#[]⟩ (Sl.mk none 0 0))) : Int × b6 × b9 × b9) e fun (s : Int × b6 × b9 × b9) H n2 => R4 x1 s.1 s.2.1 s.2.2.1 s.2.2.2 H n2 K))
theorem a5w (x0 x1) {H K} (h : Z1 x0 x1 H K) : T8 x0 x1 H K := by
 intro g0
 refine Ct.of fun w0 w ps0 H0 R E I hR => c4o ?_
 unfold Z1 at h
 unfold F83
 refine p6 I Tryz.zeroValue40 (cs := [(vi 0), (vi 0), (eS), (nS)]) rfl fun m ba z bb => ?_
 refine g9 Tryz.call123 (h g0) (z.bring 1) ?_
 rintro _ bc _ bd aa _ _ ⟨p, ab, rfl, rfl, h⟩
 refine p6 aa Tryz.zeroValue40 (cs := [(vi 0), (vi 0), (eS), (nS)]) rfl fun q be ac bf => ?_
 refine i6 ac Tryz.sizeOf40 (vs := (d9 p)) (cs' := (d9 p)) rfl rfl (nb rfl) rfl rfl fun bg ad bh => ?_
 have hj1 : ∀ (u5 : b6) (g : b9) (r : b9) H w (_ : Inv w0 ps0 H0 H [bx g0 66 (m5 u5), bx q 40 (d9 g), bx m 40 (d9 r)] w) (_ : W7 u5 g r H K), b4J (Value.pointer (some ⟨m, 0, none⟩)) (Value.pointer (some ⟨q, 0, none⟩)) w R E := by
  intro u5 g r H w I h
  unfold b4J
  intro _
  unfold W7 at h
  refine g6 (lW Tryz.isAgg40 Tryz.sizeOf40 rfl (I.bring 1)) ?_
  refine i6 (I.bring 2) Tryz.sizeOf40 (vs := (d9 g)) (cs' := (d9 g)) rfl rfl (nb rfl) rfl rfl fun bi v bj => ?_
  refine A5 Tryz.isAgg40 Tryz.sizeOf40 rfl (v.at1 (o := 0) (vs := (d9 g)) (nb rfl) rfl) ?_
  exact hR _ H _ _ (v.drop.bring 1).drop ⟨g, u5, rfl, rfl, h⟩
 refine z8 fun j1 hx1 => ?_
 refine g9 Tryz.call124 (h g0) (ad.bring 1) ?_
 rintro _ ae _ bk af _ _ ⟨ag, rfl, rfl, h⟩
 obtain ⟨t, i, ah, ai⟩ := h
 refine G7 (J := fun n l w => ∃ (s : Int × b6 × b9 × b9) (H : Hp) , n = i s ∧ l = (match s with | (H9, p5, d, f) => [(vi H9)]) ∧ (match s with | (H9, p5, d, f) => Inv w0 ps0 H0 H [bx g0 66 (m5 p5), bx q 40 (d9 d), bx m 40 (d9 f)] w) ∧ t s H) ⟨_, (ag, ab, p, (b9.mk 0 0 ⟨#[]⟩ (Sl.mk none 0 0))), ae, rfl, rfl, (((af.bring 2).bring 2).bring 2), ah⟩ ?_
 rintro bl bm w next2 ⟨⟨H9, p5, d, f⟩, H, rfl, u, I, aj⟩ hn2
 dsimp only at u I
 simp only [List.map_cons, List.map_nil, List.cons.injEq, and_true] at u
 have e6 := u
 simp only [e6]
 obtain ⟨n2, hm2, h⟩ : ∃ n2 : (Int × b6 × b9 × b9) → Hp → Prop, (∀ s' H', n2 s' H' → t s' H' ∧ i s' < i (H9, p5, d, f)) ∧ R4 x1 H9 p5 d f H n2 K := ⟨_, fun _ _ h => h, ai (H9, p5, d, f) H (fun s' H' => t s' H' ∧ i s' < i (H9, p5, d, f)) aj (fun _ _ a b => ⟨a, b⟩)⟩
 unfold b8H
 unfold R4 at h
 refine a7 pNe ?_
 refine a1T h (fun _ h => ?_) (fun _ h => ?_)
 ·refine a7 (u2 _) (a7 a3C (g6 (l1 Tryz.isAgg3 I rfl) (a7 pAd (a7 (u2 _) ?_))))
  refine a7 a3C ?_
  refine i6 I Tryz.sizeOf3 (vs := [(vi (IntKind.wrap .i64 (p5.fat + 1)))]) (cs' := [(vs p5.fl), (vi (IntKind.wrap .i64 (p5.fat + 1))), (vi p5.fbad), (vi p5.fpos.D9), (vi p5.fpos.L6)]) rfl rfl (nb rfl) rfl rfl fun bn ak bo => ?_
  refine W4 ak fun bp j => ?_
  refine C4 (lW Tryz.isAgg40 Tryz.sizeOf40 rfl (j.bring 1)) ?_
  refine g9 Tryz.call123 (h g0) j ?_
  rintro _ _ _ bq al _ am ⟨an, ao, rfl, rfl, h⟩
  refine ⟨(am _ (j.bring 1).lt1 (Inv.Z9 (Fi := [bx g0 66 [(vs p5.fl), (vi (IntKind.wrap .i64 (p5.fat + 1))), (vi p5.fbad), (vi p5.fpos.D9), (vi p5.fpos.L6)]]) ((j.bring 1).bring 1))), ?_⟩
  refine W5 (e := 40) (c := d9) (xs := [d, an]) al (a9W _ _ _ _ _ _ _ _ _ _ _ _) rfl rfl O6 O7 (nb rfl) fun k br bs ap aq bt => ?_
  refine r8 (a5e _ _ _ _) ?_
  refine i6 (aq.bring 2) Tryz.sizeOf40 (vs := [(vi H9), (vi 0), (eS), (vs k)]) (cs' := [(vi H9), (vi 0), (eS), (vs k)]) rfl rfl (nb rfl) rfl rfl fun bu ar bv => ?_
  refine g9 Tryz.call124 (h g0) (ar.bring 2) ?_
  rintro _ _ _ bw au _ _ ⟨av, rfl, rfl, h⟩
  obtain ⟨y, aw, ax, ay, az⟩ := Inv.freezeC (au.bring 2) ap (by decide)
  replace h := h k y ax ay az
  exact hn2 _ _ _ (hm2 _ _ h).2 ⟨(av, ao, (b9.mk H9 0 ⟨#[]⟩ k), f), y, rfl, rfl, (((aw.bring 2).bring 2).bring 2), (hm2 _ _ h).1⟩
 ·exact hx1 _ _ (hj1 p5 d f H _ (((I.bring 2).bring 2).bring 2) h)
def a3H (x0 : k7) (H : Hp) (K : d8 → Hp → Prop) : Prop :=
 K (d8.M3 (W0.mk x0)) H
theorem a8L (x0) {H K} (h : a3H x0 H K) : a5H x0 H K := by
 refine Ct.of fun w0 w ps0 H0 R E I hR => c4j ?_
 unfold a3H at h
 unfold F77
 refine T7 I (cs := (y3 x0)) rfl fun b c a d => ?_
 refine g6 (lW Tryz.isAgg68 Tryz.sizeOf68 rfl a) (a7 (b4m _ _) (a7 (b2e (W0.mk x0)) ?_))
 exact hR _ H _ _ a.drop ⟨(d8.M3 (W0.mk x0)), rfl, rfl, h⟩
def a3I (x0 : g5) (H : Hp) (K : d8 → Hp → Prop) : Prop :=
 K (d8.J0 (T0.mk x0)) H
theorem a8M (x0) {H K} (h : a3I x0 H K) : a5I x0 H K := by
 refine Ct.of fun w0 w ps0 H0 R E I hR => c4l ?_
 unfold a3I at h
 unfold F79
 refine T7 I (cs := (l8 x0)) rfl fun b c a d => ?_
 refine g6 (lW Tryz.isAgg56 Tryz.sizeOf56 rfl a) (a7 (b4n _ _ _ _ _ _ _ _ _ _ _ _ _ _) (a7 (b2f (T0.mk x0)) ?_))
 exact hR _ H _ _ a.drop ⟨(d8.J0 (T0.mk x0)), rfl, rfl, h⟩
def E9 (c9d : Sl) (b2J : Int) (c9e : Sl) (c9b : Int) (c6W : Int) (H : Hp) (n4 : (Int × Int) → Hp → Prop) (K : Sl → Hp → Prop) : Prop :=
 n4 (b2J, (IntKind.wrap .i64 (c6W + 1))) H
def F0 (b1w : (List d8)) (H : Hp) (K : Sl → Hp → Prop) : Prop :=
 ∀ (a6u : Sl) (a : Hp), Hle H a → SlH a 1 v7 a6u b1w → a6u.n ≤ a6u.c →
 K a6u a
def F6 (c1e : Sl) (c1f : Int) (a3J : (List d8)) (a3k : Int) (H : Hp) (n3 : ((List d8) × Int) → Hp → Prop) (K : Sl → Hp → Prop) : Prop :=
 (a3k < c1f →
 (0 : Int) ≤ a3k ∧ (a3k : Int) < c1e.n ∧ ∃ b : Sl, EltH H c1e a3k 1 [(vs b)] ∧
 ∃ a : List d8, SlH H 1 v7 b a ∧ (a3J.length + a.length) * 17 ≤ 140737488355328 ∧
 n3 ((a3J ++ a), (IntKind.wrap .i64 (a3k + 1))) H) ∧
 (¬ (a3k < c1f) →
 F0 a3J H K)
def G0 (c5x : Sl) (a8K : Int) (H : Hp) (K : Sl → Hp → Prop) : Prop :=
 S6 a8K H (fun a b =>
 TL ((a, 0) : (List d8) × Int) b fun (s : (List d8) × Int) H n3 => F6 c5x (c5x.n : Int) s.1 s.2 H n3 K)
def G1 (c5y : Sl) (b9M : Sl) (b7A : Int) (a5M : Int) (a2P : Int) (H : Hp) (n4 : (Int × Int) → Hp → Prop) (K : Sl → Hp → Prop) : Prop :=
 (a2P < b7A →
 (0 : Int) ≤ a2P ∧ (a2P : Int) < b9M.n ∧ ∃ a : Sl, EltH H b9M a2P 1 [(vs a)] ∧
 ((IntKind.wrap .i64 (a5M + (a.n : Int))) < 0 →
 False) ∧
 (¬ ((IntKind.wrap .i64 (a5M + (a.n : Int))) < 0) →
 E9 c5y (IntKind.wrap .i64 (a5M + (a.n : Int))) b9M b7A a2P H n4 K)) ∧
 (¬ (a2P < b7A) →
 G0 c5y a5M H K)
def N6 (x0 : Sl) (H : Hp) (K : Sl → Hp → Prop) : Prop :=
 TL ((0, 0) : Int × Int) H fun (s : Int × Int) H n4 => G1 x0 x0 (x0.n : Int) s.1 s.2 H n4 K
theorem a1P (x0) {H K} (h : N6 x0 H K) : D5 x0 H K := by
 refine Ct.of fun w0 w ps0 H0 R E I hR => c4h ?_
 unfold N6 at h
 unfold F75
 have hj1 : ∀ (a8K : Int) H w (_ : Inv w0 ps0 H0 H [] w) (_ : G0 x0 a8K H K), b4E (vs x0) (vi a8K) w R E := by
  intro a8K H w I h
  unfold b4E
  intro _
  unfold G0 at h
  refine g9 Tryz.call120 h I ?_
  rintro _ p _ az q _ _ ⟨r, t, u, rfl, rfl, y, h⟩
  have hj2 : ∀ (b1w : (List d8)) (a6u : Sl) (Fs6j2 : Frag) H w (_ : RowL 131 1 v7 a6u b1w Fs6j2) (_ : Inv w0 ps0 H0 H [Fs6j2] w) (_ : F0 b1w H K), b4D (vs a6u) w R E := by
   intro b1w a6u Fs6j2 H w c6X I h
   unfold b4D
   intro _
   unfold F0 at h
   obtain ⟨m, z, aa, ab, ac⟩ := Inv.freezeC I c6X (by decide)
   replace h := h a6u m aa ab ac
   exact hR _ m _ _ z ⟨a6u, rfl, rfl, h⟩
  refine z8 fun j2 hx2 => ?_
  refine a7 (b1v _ _ _) ?_
  obtain ⟨e, c, ad, ae⟩ := h
  refine G7 (J := fun n l w => ∃ (s : (List d8) × Int) (H : Hp) (b1x : Sl) (Fs6l3 : Frag) , n = c s ∧ l = (match s with | (a3J, a3k) => [(vs b1x), (vi a3k)]) ∧ (match s with | (a3J, a3k) => RowL 131 1 v7 b1x a3J Fs6l3) ∧ (match s with | (a3J, a3k) => Inv w0 ps0 H0 H [Fs6l3] w) ∧ e s H) ⟨_, (r, 0), p, t, u, rfl, rfl, y, q, ad⟩ ?_
  rintro ba bb w next3 ⟨⟨a3J, a3k⟩, H, b1x, Fs6l3, rfl, f, b7B, I, af⟩ hn3
  dsimp only at f I b7B
  simp only [List.map_cons, List.map_nil, List.cons.injEq, and_true] at f
  obtain ⟨e6, e27⟩ := f
  simp only [e6, e27]
  obtain ⟨n3, hm3, h⟩ : ∃ n3 : ((List d8) × Int) → Hp → Prop, (∀ s' H', n3 s' H' → e s' H' ∧ c s' < c (a3J, a3k)) ∧ F6 x0 (x0.n : Int) a3J a3k H n3 K := ⟨_, fun _ _ h => h, ae (a3J, a3k) H (fun s' H' => e s' H' ∧ c s' < c (a3J, a3k)) af (fun _ _ a b => ⟨a, b⟩)⟩
  unfold b8C
  unfold F6 at h
  refine a7 pLs ?_
  refine m6 h (fun _ h => ?_) (fun _ h => ?_)
  ·obtain ⟨ag, ah, ai, g, h⟩ := h
   obtain ⟨bc, bd, aj, g⟩ := g
   refine a7 (b3a aj _ _ _ _ ag ah) (g6 (ld1 (v := (vs ai)) Tryz.isAgg128 (I.atH g)) ?_)
   obtain ⟨ak, al, h⟩ := h
   obtain ⟨am, h⟩ := h
   refine a8n (s := b1x) (xs := a3J) I b7B (SlH.src I al S0) am fun an ao be ap aq bf => ?_
   refine a7 pAd ?_
   exact hn3 _ _ _ (hm3 _ _ h).2 ⟨((a3J ++ ak), (IntKind.wrap .i64 (a3k + 1))), H, an, ao, rfl, rfl, ap, aq, (hm3 _ _ h).1⟩
  ·exact hx2 _ _ (hj2 a3J b1x Fs6l3 H _ b7B I h)
 refine z8 fun j1 hx1 => ?_
 refine a7 (b1v _ _ _) ?_
 obtain ⟨i, d, ar, au⟩ := h
 refine G7 (J := fun n l w => ∃ (s : Int × Int) (H : Hp) , n = d s ∧ l = (match s with | (a5M, a2P) => [(vi a5M), (vi a2P)]) ∧ (match s with | (a5M, a2P) => Inv w0 ps0 H0 H [] w) ∧ i s H) ⟨_, (0, 0), H, rfl, rfl, I, ar⟩ ?_
 rintro bg bh w next4 ⟨⟨a5M, a2P⟩, H, rfl, j, I, av⟩ hn4
 dsimp only at j I
 simp only [List.map_cons, List.map_nil, List.cons.injEq, and_true] at j
 obtain ⟨e3, e11⟩ := j
 simp only [e3, e11]
 obtain ⟨n4, hm4, h⟩ : ∃ n4 : (Int × Int) → Hp → Prop, (∀ s' H', n4 s' H' → i s' H' ∧ d s' < d (a5M, a2P)) ∧ G1 x0 x0 (x0.n : Int) a5M a2P H n4 K := ⟨_, fun _ _ h => h, au (a5M, a2P) H (fun s' H' => i s' H' ∧ d s' < d (a5M, a2P)) av (fun _ _ a b => ⟨a, b⟩)⟩
 unfold b8D
 unfold G1 at h
 refine a7 pLs ?_
 refine m6 h (fun _ h => ?_) (fun _ h => ?_)
 ·have hj5 : ∀ (b2J : Int) H w (_ : Inv w0 ps0 H0 H [] w) (_ : E9 x0 b2J x0 (x0.n : Int) a2P H n4 K), b4F (vs x0) (vi b2J) (vs x0) (vi (x0.n : Int)) (vi a2P) w next4 R E := by
   intro b2J H w I h
   unfold b4F
   intro _
   unfold E9 at h
   refine a7 pAd ?_
   exact hn4 _ _ _ (hm4 _ _ h).2 ⟨(b2J, (IntKind.wrap .i64 (a2P + 1))), H, rfl, rfl, I, (hm4 _ _ h).1⟩
  refine z8 fun j5 hx5 => ?_
  obtain ⟨aw, ax, o, k, h⟩ := h
  obtain ⟨bi, bj, ay, k⟩ := k
  refine a7 (b3a ay _ _ _ _ aw ax) (g6 (ld1 (v := (vs o)) Tryz.isAgg128 (I.atH k)) (a7 (a7c _ _ _) (a7 pAd (a7 pLs ?_))))
  refine m6 h (fun _ h => ?_) (fun _ h => ?_)
  ·refine a7 (b8r _) ?_
   exact h.elim
  ·exact hx5 _ _ (hj5 (IntKind.wrap .i64 (a5M + (o.n : Int))) H _ I h)
 ·exact hx1 _ _ (hj1 a5M H _ I h)
def a4v (x0 : d8) (H : Hp) (K : ByteArray → Bool → Hp → Prop) : Prop :=
 (x0.a4C = true →
 K x0.Y5.X0.o9 true H) ∧
 (x0.a4C = false →
 (x0.a4D = true →
 K x0.s8.i8.o9 ((decide (x0.s8.i8.c8 = 1)) || (decide (x0.s8.i8.c8 = 2))) H) ∧
 (x0.a4D = false →
 (x0.a4B = true →
 K x0.D4.u4.o9 ((decide (x0.D4.u4.c8 = 2)) || (decide (x0.D4.u4.c8 = 4))) H) ∧
 (x0.a4B = false →
 K ⟨#[]⟩ false H)))
theorem a9C (x0) {H K} (h : a4v x0 H K) : a0Y x0 H K := by
 refine Ct.of fun w0 w ps0 H0 R E I hR => c2d ?_
 unfold a4v at h
 unfold c4Z
 refine a7 (b3H x0) (a7 (j9 _ _ (vB x0.a4C) rfl) (a7 (j9 _ _ _ rfl) ?_))
 refine p7 h (fun _ h => ?_) (fun _ h => ?_)
 ·refine p6 I Tryz.zeroValue175 (cs := [(eS), (vi 0)]) rfl fun n o e q => ?_
  refine i6 e Tryz.sizeOf175 (vs := [(Value.string x0.Y5.X0.o9), (vi x0.Y5.X0.a0o)]) (cs' := [(Value.string x0.Y5.X0.o9), (vi x0.Y5.X0.a0o)]) rfl rfl (nb rfl) rfl rfl fun r d s => ?_
  refine a7 a8a (a7 b7r (g6 (l1 Tryz.isAgg9 d rfl) ?_))
  exact hR _ H _ _ d.drop ⟨x0.Y5.X0.o9, true, rfl, rfl, h⟩
 ·refine a7 (b3I x0) (a7 (j9 _ _ (vB x0.a4D) rfl) (a7 (j9 _ _ _ rfl) ?_))
  refine p7 h (fun _ h => ?_) (fun _ h => ?_)
  ·refine p6 I Tryz.zeroValue177 (cs := [(vi 0), (eS), (nS), (nS), (nS), (nS)]) rfl fun f t i u => ?_
   refine i6 i Tryz.sizeOf177 (vs := [(vi x0.s8.i8.c8), (Value.string x0.s8.i8.o9), (vs x0.s8.i8.m7), (vs x0.s8.i8.A6), (vs x0.s8.i8.L5), (vs x0.s8.i8.I0)]) (cs' := [(vi x0.s8.i8.c8), (Value.string x0.s8.i8.o9), (vs x0.s8.i8.m7), (vs x0.s8.i8.A6), (vs x0.s8.i8.L5), (vs x0.s8.i8.I0)]) rfl rfl (nb rfl) rfl rfl fun v j y => ?_
   refine W4 j fun z b => ?_
   refine r8 O0 ?_
   refine r8 a3D ?_
   refine r8 O0 ?_
   refine r8 X9 ?_
   refine C4 (l1 Tryz.isAgg9 b rfl) ?_
   refine C4 (l1 Tryz.isAgg3 b rfl) ?_
   refine r8 pEq ?_
   refine r8 (Pu.g fun a => by with_reducible exact O0) ?_
   refine r8 (Pu.g fun a => by simp only [m1 a]; with_reducible exact X9) ?_
   refine c3q (p := (Value.pointer (some ⟨f, 0, none⟩))) rfl (Ld.g fun a => by simp only [m1 a]; exact (l1 Tryz.isAgg3 b rfl)) ?_
   refine r8 (Pu.g fun a => by simp only [m1 a]; with_reducible exact pEq) ?_
   refine r8 (P6 _ _) ?_
   exact hR _ H _ _ b.drop ⟨x0.s8.i8.o9, ((decide (x0.s8.i8.c8 = 1)) || (decide (x0.s8.i8.c8 = 2))), rfl, rfl, h⟩
  ·refine a7 (b3J x0) (a7 (j9 _ _ (vB x0.a4B) rfl) (a7 (j9 _ _ _ rfl) ?_))
   refine p7 h (fun _ h => ?_) (fun _ h => ?_)
   ·refine p6 I Tryz.zeroValue141 (cs := [(vi 0), (vi 0), (eS), (nS)]) rfl fun k aa l ab => ?_
    refine i6 l Tryz.sizeOf141 (vs := [(vi x0.D4.u4.c8), (vi x0.D4.u4.J5), (Value.string x0.D4.u4.o9), (vs x0.D4.u4.P7)]) (cs' := [(vi x0.D4.u4.c8), (vi x0.D4.u4.J5), (Value.string x0.D4.u4.o9), (vs x0.D4.u4.P7)]) rfl rfl (nb rfl) rfl rfl fun ac m ad => ?_
    refine W4 m fun ae c => ?_
    refine r8 Z7 ?_
    refine r8 a7b ?_
    refine r8 Z7 ?_
    refine r8 a3B ?_
    refine C4 (l1 Tryz.isAgg9 c rfl) ?_
    refine C4 (l1 Tryz.isAgg3 c rfl) ?_
    refine r8 pEq ?_
    refine r8 (Pu.g fun a => by with_reducible exact Z7) ?_
    refine r8 (Pu.g fun a => by simp only [m1 a]; with_reducible exact a3B) ?_
    refine c3q (p := (Value.pointer (some ⟨k, 0, none⟩))) rfl (Ld.g fun a => by simp only [m1 a]; exact (l1 Tryz.isAgg3 c rfl)) ?_
    refine r8 (Pu.g fun a => by simp only [m1 a]; with_reducible exact pEq) ?_
    refine r8 (P6 _ _) ?_
    exact hR _ H _ _ c.drop ⟨x0.D4.u4.o9, ((decide (x0.D4.u4.c8 = 2)) || (decide (x0.D4.u4.c8 = 4))), rfl, rfl, h⟩
   ·exact hR _ H _ _ I ⟨⟨#[]⟩, false, rfl, rfl, h⟩
def a4W (x0 : ByteArray) (H : Hp) (K : Bool → Hp → Prop) : Prop :=
 Y2 x0 H (fun a b =>
 K (decide (32 < a)) b)
theorem b0y (x0) {H K} (h : a4W x0 H K) : a1H x0 H K := by
 refine Ct.of fun w0 w ps0 H0 R E I hR => c2l ?_
 unfold a4W at h
 unfold c5h
 refine g9 Tryz.call162 h I ?_
 rintro _ a _ d b _ _ ⟨c, rfl, rfl, h⟩
 refine a7 pGt ?_
 exact hR _ a _ _ b ⟨(decide (32 < c)), rfl, rfl, h⟩
def a3K (H : Hp) (K : Bool → Hp → Prop) : Prop :=
 K true H
def P9 (b : ByteArray) (a : Nat) (H : Hp) (n2 : Nat → Hp → Prop) (K : Bool → Hp → Prop) : Prop :=
 (a < b.size →
 a2q ((Utf8.decode b a).1 : Int) H (fun c d =>
 TG ((!(!c) && (decide (((a : Nat) : Int) = 0))) = true) (R1 ((Utf8.decode b a).1 : Int) d) 0 d (fun (e : Int) (f : Hp) =>
 (((!c) || ((decide (((a : Nat) : Int) = 0)) && (!decide (e = 3)))) = true →
 K false f) ∧
 (((!c) || ((decide (((a : Nat) : Int) = 0)) && (!decide (e = 3)))) = false →
 n2 (a + (Utf8.decode b a).2) f)))) ∧
 (¬ (a < b.size) →
 a3K H K)
def a4X (x0 : ByteArray) (H : Hp) (K : Bool → Hp → Prop) : Prop :=
 TG ((decide (x0 = ⟨#[]⟩)) = false) (a3T x0 H) false H (fun (a : Bool) (c : Hp) =>
 TG (((decide (x0 = ⟨#[]⟩)) || (!a)) = false) (a1H x0 c) false c (fun (b : Bool) (d : Hp) =>
 TG ((((decide (x0 = ⟨#[]⟩)) || (!a)) || b) = false) (a0l x0 d) false d (fun (e : Bool) (f : Hp) =>
 (((((decide (x0 = ⟨#[]⟩)) || (!a)) || b) || e) = true →
 K false f) ∧
 (((((decide (x0 = ⟨#[]⟩)) || (!a)) || b) || e) = false →
 TL (0 : Nat) f fun (s : Nat) H n2 => P9 x0 s H n2 K))))
theorem b0z (x0) {H K} (h : a4X x0 H K) : a3j x0 H K := by
 refine Ct.of fun w0 w ps0 H0 R E I hR => c2e ?_
 unfold a4X at h
 unfold c5a
 refine a7 (R9 _ _ _ _ _) ?_
 simp only [E5]
 refine G6 (D := fun am z => ∃ (d : Bool) (q : Hp) , am = (gv (decide (x0 = ⟨#[]⟩)) false (vB d)) ∧ (Inv w0 ps0 H0 q [] z) ∧ (∀ i, i < w.heap.size → ¬ inF [] i → z.heap[i]? = w.heap[i]?) ∧ Hle H q ∧ (TG (((decide (x0 = ⟨#[]⟩)) || (!d)) = false) (a1H x0 q) false q (fun (m : Bool) (o : Hp) =>
 TG ((((decide (x0 = ⟨#[]⟩)) || (!d)) || m) = false) (a0l x0 o) false o (fun (p : Bool) (f : Hp) =>
 (((((decide (x0 = ⟨#[]⟩)) || (!d)) || m) || p) = true →
 K false f) ∧
 (((((decide (x0 = ⟨#[]⟩)) || (!d)) || m) || p) = false →
 TL (0 : Nat) f fun (s : Nat) H n2 => P9 x0 s H n2 K))))) (fun t => ?_) (fun t => ?_) ?_
 ·replace h := h.1 t
  have c := t
  simp only [m1 c]
  refine g9 Tryz.call160 h I ?_
  rintro _ q _ z ad an ao ⟨d, rfl, rfl, h⟩
  exact ⟨d, q, by rfl, ad, ao, an, h⟩
 ·exact ⟨false, H, by rw [R8 t], I, fun _ _ _ => rfl, Hle.refl _, h.2 t⟩
 ·clear h
  rintro am z ⟨d, q, rfl, ad, ao, an, h⟩
  refine a7 (Pu.g fun c => by simp only [m1 c]; with_reducible exact (T2 _)) ?_
  refine a7 (P6 _ _) ?_
  simp only [E5]
  refine G6 (D := fun ap aa => ∃ (m : Bool) (o : Hp) , ap = (gv ((decide (x0 = ⟨#[]⟩)) || (!d)) false (vB m)) ∧ (Inv w0 ps0 H0 o [] aa) ∧ (∀ i, i < z.heap.size → ¬ inF [] i → aa.heap[i]? = z.heap[i]?) ∧ Hle q o ∧ (TG ((((decide (x0 = ⟨#[]⟩)) || (!d)) || m) = false) (a0l x0 o) false o (fun (p : Bool) (f : Hp) =>
 (((((decide (x0 = ⟨#[]⟩)) || (!d)) || m) || p) = true →
 K false f) ∧
 (((((decide (x0 = ⟨#[]⟩)) || (!d)) || m) || p) = false →
 TL (0 : Nat) f fun (s : Nat) H n2 => P9 x0 s H n2 K)))) (fun u => ?_) (fun u => ?_) ?_
  ·replace h := h.1 u
   have c := u
   simp only [m1 c]
   refine g9 Tryz.call156 h ad ?_
   rintro _ o _ aa ae aq ar ⟨m, rfl, rfl, h⟩
   exact ⟨m, o, by rfl, ae, ar, aq, h⟩
  ·exact ⟨false, q, by rw [R8 u], ad, fun _ _ _ => rfl, Hle.refl _, h.2 u⟩
  ·clear h
   rintro ap aa ⟨m, o, rfl, ae, ar, aq, h⟩
   refine a7 (P6 _ _) ?_
   simp only [E5]
   refine G6 (D := fun au af => ∃ (p : Bool) (f : Hp) , au = (gv (((decide (x0 = ⟨#[]⟩)) || (!d)) || m) false (vB p)) ∧ (Inv w0 ps0 H0 f [] af) ∧ (∀ i, i < aa.heap.size → ¬ inF [] i → af.heap[i]? = aa.heap[i]?) ∧ Hle o f ∧ ((((((decide (x0 = ⟨#[]⟩)) || (!d)) || m) || p) = true →
 K false f) ∧
 (((((decide (x0 = ⟨#[]⟩)) || (!d)) || m) || p) = false →
 TL (0 : Nat) f fun (s : Nat) H n2 => P9 x0 s H n2 K))) (fun v => ?_) (fun v => ?_) ?_
   ·replace h := h.1 v
    have c := v
    simp only [m1 c]
    refine g9 Tryz.call155 h ae ?_
    rintro _ f _ af ag av aw ⟨p, rfl, rfl, h⟩
    exact ⟨p, f, by rfl, ag, aw, av, h⟩
   ·exact ⟨false, o, by rw [R8 v], ae, fun _ _ _ => rfl, Hle.refl _, h.2 v⟩
   ·clear h
    rintro au af ⟨p, f, rfl, ag, aw, av, h⟩
    refine a7 (P6 _ _) ?_
    refine p7 h (fun _ h => ?_) (fun _ h => ?_)
    ·exact hR _ f _ _ ag ⟨false, rfl, rfl, h⟩
    ·have hj1 : ∀ H w (_ : Inv w0 ps0 H0 H [] w) (_ : a3K H K), b2v w R E := by
      intro H w I h
      unfold b2v
      intro _
      unfold a3K at h
      exact hR _ H _ _ I ⟨true, rfl, rfl, h⟩
     refine z8 fun j1 hx1 => ?_
     refine a9U Tryz.underlying9 x0 ag fun ax bk be bl => ?_
     obtain ⟨aj, ac, bf, bg⟩ := h
     refine G7 (J := fun n l w => ∃ (s : Nat) (H : Hp) , n = ac s ∧ l = [] ∧ Inv w0 ps0 H0 H [itf ax x0 s] w ∧ aj s H) ⟨_, 0, f, rfl, rfl, be, bf⟩ ?_
     rintro bm bn w next2 ⟨j, H, rfl, bh, I, bi⟩ hn2
     clear bh
     obtain ⟨n2, hm2, h⟩ : ∃ n2 : Nat → Hp → Prop, (∀ s' H', n2 s' H' → aj s' H' ∧ ac s' < ac j) ∧ P9 x0 j H n2 K := ⟨_, fun _ _ h => h, bg j H (fun s' H' => aj s' H' ∧ ac s' < ac j) bi (fun _ _ a b => ⟨a, b⟩)⟩
     unfold b6t
     unfold P9 at h
     refine b1p I (fun ak bo bj bp => ?_) (fun ak => ?_)
     ·replace h := h.1 ak
      refine a7 (j9 _ _ (vB true) rfl) ?_
      refine a1h (fun e => ?_) (fun e => by cases e)
      refine a7 (j9 _ _ (vi ((j : Nat) : Int)) rfl) (a7 (j9 _ _ (Value.int .i32 ((Utf8.decode x0 j).1 : Int)) rfl) ?_)
      refine g9 Tryz.call154 h bj ?_
      rintro _ ay _ az ba _ _ ⟨al, rfl, rfl, h⟩
      refine a7 (T2 _) ?_
      simp only [E5]
      refine a7 (Pu.g fun c => by simp only [m1 c]; with_reducible exact pEq) ?_
      simp only [a9S, b8i]
      refine b7m (a0t _ _ _) ?_
      refine G6 (D := fun bb ah => ∃ (ab : Int) (r : Hp) , bb = (gv (!(!al) && (decide (((j : Nat) : Int) = 0))) true (vi ab)) ∧ (Inv w0 ps0 H0 r [itf ax x0 (j + (Utf8.decode x0 j).2)] ah) ∧ (∀ i, i < az.heap.size → ¬ inF [] i → ah.heap[i]? = az.heap[i]?) ∧ Hle ay r ∧ ((((!al) || ((decide (((j : Nat) : Int) = 0)) && (!decide (ab = 3)))) = true →
 K false r) ∧
 (((!al) || ((decide (((j : Nat) : Int) = 0)) && (!decide (ab = 3)))) = false →
 n2 (j + (Utf8.decode x0 j).2) r))) (fun y => ?_) (fun y => ?_) ?_
      ·replace h := h.1 y
       obtain ⟨c, k⟩ := a3A y
       simp only [m1 y]
       refine g9 Tryz.call132 h ba ?_
       rintro _ r _ ah ai bc bd ⟨ab, rfl, rfl, h⟩
       exact ⟨ab, r, by rfl, ai, bd, bc, h⟩
      ·exact ⟨0, ay, by rw [R8 y], ba, fun _ _ _ => rfl, Hle.refl _, h.2 y⟩
      ·clear h
       rintro bb ah ⟨ab, r, rfl, ai, bd, bc, h⟩
       refine a7 (Pu.e (a0t _ _ _) (Pu.g fun hb => by obtain ⟨c, k⟩ := a3A hb; simp only [m1 hb]; with_reducible exact pNe)) ?_
       refine a7 (Pu.g fun c => by simp only [m1 c, a9y c]; with_reducible exact (C1 _ _)) ?_
       refine a7 (P6 _ _) ?_
       refine p7 h (fun _ h => ?_) (fun _ h => ?_)
       ·exact hR _ r _ _ ai.drop ⟨false, rfl, rfl, h⟩
       ·exact hn2 _ _ _ (hm2 _ _ h).2 ⟨(j + (Utf8.decode x0 j).2), r, rfl, rfl, ai, (hm2 _ _ h).1⟩
     ·replace h := h.2 ak
      refine a7 (j9 _ _ (vB false) rfl) ?_
      refine a1h (fun e => by cases e) (fun e => ?_)
      exact hx1 _ _ (hj1 H _ I.drop h)
def a4e (x0 : l7) (H : Hp) (K : Int → Hp → Prop) : Prop :=
 a4V x0 H (fun a b =>
 K a.fe b)
theorem a9m (x0) {H K} (h : a4e x0 H K) : a0p x0 H K := by
 refine Ct.of fun w0 w ps0 H0 R E I hR => c3J ?_
 unfold a4e at h
 unfold F12
 refine T7 I (cs := (l9 x0)) rfl fun e f a g => ?_
 refine g6 (lW Tryz.isAgg26 Tryz.sizeOf26 rfl a) ?_
 refine g9 Tryz.call32 h a ?_
 rintro _ c _ i b _ _ ⟨d, j, rfl, rfl, h⟩
 refine a7 (u2 _) (a7 a5F (g6 (l1 Tryz.isAgg29 b rfl) ?_))
 exact hR _ c _ _ b.drop.drop ⟨d.fe, rfl, rfl, h⟩
def a3b (x0 : b9) (x1 : b9) (H : Hp) (K : Bool → Hp → Prop) : Prop :=
 TG ((((decide (x0.c8 = x1.c8)) && (decide (x0.J5 = x1.J5))) && (decide (x0.o9 = x1.o9))) = true) (m9 x0.P7 x1.P7 H) false H (fun (a : Bool) (b : Hp) =>
 K ((((decide (x0.c8 = x1.c8)) && (decide (x0.J5 = x1.J5))) && (decide (x0.o9 = x1.o9))) && a) b)
theorem a8e (x0 x1) {H K} (h : a3b x0 x1 H K) : a0N x0 x1 H K := by
 refine Ct.of fun w0 w ps0 H0 R E I hR => c4u ?_
 unfold a3b at h
 unfold F94
 refine T7 I (cs := (d9 x0)) rfl fun o r p s => ?_
 refine T7 p (cs := (d9 x1)) rfl fun q k b t => ?_
 refine a7 a3B (g6 (l1 Tryz.isAgg3 (b.bring 1) rfl) (a7 a3B (g6 (l1 Tryz.isAgg3 b rfl) (a7 pEq ?_))))
 refine a7 (Pu.g fun a => by with_reducible exact a6X) ?_
 refine g6 (Ld.g fun a => by simp only [m1 a]; exact (l1 Tryz.isAgg2 (b.bring 1) rfl)) ?_
 refine a7 (Pu.g fun a => by with_reducible exact a6X) ?_
 refine g6 (Ld.g fun a => by simp only [m1 a]; exact (l1 Tryz.isAgg2 b rfl)) ?_
 refine a7 (Pu.g fun a => by simp only [m1 a]; with_reducible exact pEq) ?_
 refine a7 (C1 _ _) ?_
 refine a7 (Pu.g fun a => by with_reducible exact a7b) ?_
 refine g6 (Ld.g fun a => by simp only [m1 a]; exact (l1 Tryz.isAgg9 (b.bring 1) rfl)) ?_
 refine a7 (Pu.g fun a => by with_reducible exact a7b) ?_
 refine g6 (Ld.g fun a => by simp only [m1 a]; exact (l1 Tryz.isAgg9 b rfl)) ?_
 refine a7 (Pu.g fun a => by simp only [m1 a]; with_reducible exact (R9 _ _ _ _ _)) ?_
 refine a7 (C1 _ _) ?_
 refine a7 (Pu.g fun a => by with_reducible exact a6W) ?_
 refine g6 (Ld.g fun a => by simp only [m1 a]; exact (l1 Tryz.isAgg38 (b.bring 1) rfl)) ?_
 refine a7 (Pu.g fun a => by with_reducible exact a6W) ?_
 refine g6 (Ld.g fun a => by simp only [m1 a]; exact (l1 Tryz.isAgg38 b rfl)) ?_
 refine G6 (D := fun l f => ∃ (e : Bool) (c : Hp) , l = (gv (((decide (x0.c8 = x1.c8)) && (decide (x0.J5 = x1.J5))) && (decide (x0.o9 = x1.o9))) true (vB e)) ∧ (Inv w0 ps0 H0 c [bx q 40 (d9 x1), bx o 40 (d9 x0)] f) ∧ (∀ i, i < k.heap.size → ¬ inF [] i → f.heap[i]? = k.heap[i]?) ∧ Hle H c ∧ (K ((((decide (x0.c8 = x1.c8)) && (decide (x0.J5 = x1.J5))) && (decide (x0.o9 = x1.o9))) && e) c)) (fun d => ?_) (fun d => ?_) ?_
 ·replace h := h.1 d
  have a := d
  simp only [m1 a]
  refine g9 Tryz.call93 h b ?_
  rintro _ c _ f j m n ⟨e, rfl, rfl, h⟩
  exact ⟨e, c, by rfl, j, n, m, h⟩
 ·exact ⟨false, H, by rw [R8 d], b, fun _ _ _ => rfl, Hle.refl _, h.2 d⟩
 ·clear h
  rintro l f ⟨e, c, rfl, j, n, m, h⟩
  refine a7 (C1 _ _) ?_
  exact hR _ c _ _ j.drop.drop ⟨((((decide (x0.c8 = x1.c8)) && (decide (x0.J5 = x1.J5))) && (decide (x0.o9 = x1.o9))) && e), rfl, rfl, h⟩
def a3d (x0 : g5) (x1 : g5) (H : Hp) (K : Bool → Hp → Prop) : Prop :=
 TG (((decide (x0.c8 = x1.c8)) && (decide (x0.o9 = x1.o9))) = true) (m9 x0.m7 x1.m7 H) false H (fun (a : Bool) (c : Hp) =>
 TG ((((decide (x0.c8 = x1.c8)) && (decide (x0.o9 = x1.o9))) && a) = true) (l0 x0.A6 x1.A6 c) false c (fun (b : Bool) (d : Hp) =>
 TG (((((decide (x0.c8 = x1.c8)) && (decide (x0.o9 = x1.o9))) && a) && b) = true) (d6 x0.L5 x1.L5 d) false d (fun (e : Bool) (f : Hp) =>
 TG ((((((decide (x0.c8 = x1.c8)) && (decide (x0.o9 = x1.o9))) && a) && b) && e) = true) (d6 x0.I0 x1.I0 f) false f (fun (g : Bool) (i : Hp) =>
 K ((((((decide (x0.c8 = x1.c8)) && (decide (x0.o9 = x1.o9))) && a) && b) && e) && g) i))))
theorem a8f (x0 x1) {H K} (h : a3d x0 x1 H K) : a0P x0 x1 H K := by
 refine Ct.of fun w0 w ps0 H0 R E I hR => c3V ?_
 unfold a3d at h
 unfold F48
 refine T7 I (cs := (l8 x0)) rfl fun z ar aq au => ?_
 refine T7 aq (cs := (l8 x1)) rfl fun aa ad d av => ?_
 refine a7 X9 (g6 (l1 Tryz.isAgg3 (d.bring 1) rfl) (a7 X9 (g6 (l1 Tryz.isAgg3 d rfl) (a7 pEq ?_))))
 refine a7 (Pu.g fun a => by with_reducible exact a3D) ?_
 refine g6 (Ld.g fun a => by simp only [m1 a]; exact (l1 Tryz.isAgg9 (d.bring 1) rfl)) ?_
 refine a7 (Pu.g fun a => by with_reducible exact a3D) ?_
 refine g6 (Ld.g fun a => by simp only [m1 a]; exact (l1 Tryz.isAgg9 d rfl)) ?_
 refine a7 (Pu.g fun a => by simp only [m1 a]; with_reducible exact (R9 _ _ _ _ _)) ?_
 refine a7 (C1 _ _) ?_
 refine a7 (Pu.g fun a => by with_reducible exact a0K) ?_
 refine g6 (Ld.g fun a => by simp only [m1 a]; exact (l1 Tryz.isAgg38 (d.bring 1) rfl)) ?_
 refine a7 (Pu.g fun a => by with_reducible exact a0K) ?_
 refine g6 (Ld.g fun a => by simp only [m1 a]; exact (l1 Tryz.isAgg38 d rfl)) ?_
 refine G6 (D := fun ae u => ∃ (b : Bool) (p : Hp) , ae = (gv ((decide (x0.c8 = x1.c8)) && (decide (x0.o9 = x1.o9))) true (vB b)) ∧ (Inv w0 ps0 H0 p [bx aa 56 (l8 x1), bx z 56 (l8 x0)] u) ∧ (∀ i, i < ad.heap.size → ¬ inF [] i → u.heap[i]? = ad.heap[i]?) ∧ Hle H p ∧ (TG ((((decide (x0.c8 = x1.c8)) && (decide (x0.o9 = x1.o9))) && b) = true) (l0 x0.A6 x1.A6 p) false p (fun (c : Bool) (k : Hp) =>
 TG (((((decide (x0.c8 = x1.c8)) && (decide (x0.o9 = x1.o9))) && b) && c) = true) (d6 x0.L5 x1.L5 k) false k (fun (e : Bool) (f : Hp) =>
 TG ((((((decide (x0.c8 = x1.c8)) && (decide (x0.o9 = x1.o9))) && b) && c) && e) = true) (d6 x0.I0 x1.I0 f) false f (fun (l : Bool) (j : Hp) =>
 K ((((((decide (x0.c8 = x1.c8)) && (decide (x0.o9 = x1.o9))) && b) && c) && e) && l) j))))) (fun q => ?_) (fun q => ?_) ?_
 ·replace h := h.1 q
  have a := q
  simp only [m1 a]
  refine g9 Tryz.call93 h d ?_
  rintro _ p _ u m af ag ⟨b, rfl, rfl, h⟩
  exact ⟨b, p, by rfl, m, ag, af, h⟩
 ·exact ⟨false, H, by rw [R8 q], d, fun _ _ _ => rfl, Hle.refl _, h.2 q⟩
 ·clear h
  rintro ae u ⟨b, p, rfl, m, ag, af, h⟩
  refine a7 (C1 _ _) ?_
  refine a7 (Pu.g fun a => by with_reducible exact a2N) ?_
  refine g6 (Ld.g fun a => by simp only [m1 a]; exact (l1 Tryz.isAgg47 (m.bring 1) rfl)) ?_
  refine a7 (Pu.g fun a => by with_reducible exact a2N) ?_
  refine g6 (Ld.g fun a => by simp only [m1 a]; exact (l1 Tryz.isAgg47 m rfl)) ?_
  refine G6 (D := fun ah v => ∃ (c : Bool) (k : Hp) , ah = (gv (((decide (x0.c8 = x1.c8)) && (decide (x0.o9 = x1.o9))) && b) true (vB c)) ∧ (Inv w0 ps0 H0 k [bx aa 56 (l8 x1), bx z 56 (l8 x0)] v) ∧ (∀ i, i < u.heap.size → ¬ inF [] i → v.heap[i]? = u.heap[i]?) ∧ Hle p k ∧ (TG (((((decide (x0.c8 = x1.c8)) && (decide (x0.o9 = x1.o9))) && b) && c) = true) (d6 x0.L5 x1.L5 k) false k (fun (e : Bool) (f : Hp) =>
 TG ((((((decide (x0.c8 = x1.c8)) && (decide (x0.o9 = x1.o9))) && b) && c) && e) = true) (d6 x0.I0 x1.I0 f) false f (fun (l : Bool) (j : Hp) =>
 K ((((((decide (x0.c8 = x1.c8)) && (decide (x0.o9 = x1.o9))) && b) && c) && e) && l) j)))) (fun r => ?_) (fun r => ?_) ?_
  ·replace h := h.1 r
   have a := r
   simp only [m1 a]
   refine g9 Tryz.call95 h m ?_
   rintro _ k _ v n ai aj ⟨c, rfl, rfl, h⟩
   exact ⟨c, k, by rfl, n, aj, ai, h⟩
  ·exact ⟨false, p, by rw [R8 r], m, fun _ _ _ => rfl, Hle.refl _, h.2 r⟩
  ·clear h
   rintro ah v ⟨c, k, rfl, n, aj, ai, h⟩
   refine a7 (C1 _ _) ?_
   refine a7 (Pu.g fun a => by with_reducible exact a4F) ?_
   refine g6 (Ld.g fun a => by simp only [m1 a]; exact (l1 Tryz.isAgg24 (n.bring 1) rfl)) ?_
   refine a7 (Pu.g fun a => by with_reducible exact a4F) ?_
   refine g6 (Ld.g fun a => by simp only [m1 a]; exact (l1 Tryz.isAgg24 n rfl)) ?_
   refine G6 (D := fun ak y => ∃ (e : Bool) (f : Hp) , ak = (gv ((((decide (x0.c8 = x1.c8)) && (decide (x0.o9 = x1.o9))) && b) && c) true (vB e)) ∧ (Inv w0 ps0 H0 f [bx aa 56 (l8 x1), bx z 56 (l8 x0)] y) ∧ (∀ i, i < v.heap.size → ¬ inF [] i → y.heap[i]? = v.heap[i]?) ∧ Hle k f ∧ (TG ((((((decide (x0.c8 = x1.c8)) && (decide (x0.o9 = x1.o9))) && b) && c) && e) = true) (d6 x0.I0 x1.I0 f) false f (fun (l : Bool) (j : Hp) =>
 K ((((((decide (x0.c8 = x1.c8)) && (decide (x0.o9 = x1.o9))) && b) && c) && e) && l) j))) (fun s => ?_) (fun s => ?_) ?_
   ·replace h := h.1 s
    have a := s
    simp only [m1 a]
    refine g9 Tryz.call47 h n ?_
    rintro _ f _ y o al am ⟨e, rfl, rfl, h⟩
    exact ⟨e, f, by rfl, o, am, al, h⟩
   ·exact ⟨false, k, by rw [R8 s], n, fun _ _ _ => rfl, Hle.refl _, h.2 s⟩
   ·clear h
    rintro ak y ⟨e, f, rfl, o, am, al, h⟩
    refine a7 (C1 _ _) ?_
    refine a7 (Pu.g fun a => by with_reducible exact a4G) ?_
    refine g6 (Ld.g fun a => by simp only [m1 a]; exact (l1 Tryz.isAgg24 (o.bring 1) rfl)) ?_
    refine a7 (Pu.g fun a => by with_reducible exact a4G) ?_
    refine g6 (Ld.g fun a => by simp only [m1 a]; exact (l1 Tryz.isAgg24 o rfl)) ?_
    refine G6 (D := fun an ab => ∃ (l : Bool) (j : Hp) , an = (gv (((((decide (x0.c8 = x1.c8)) && (decide (x0.o9 = x1.o9))) && b) && c) && e) true (vB l)) ∧ (Inv w0 ps0 H0 j [bx aa 56 (l8 x1), bx z 56 (l8 x0)] ab) ∧ (∀ i, i < y.heap.size → ¬ inF [] i → ab.heap[i]? = y.heap[i]?) ∧ Hle f j ∧ (K ((((((decide (x0.c8 = x1.c8)) && (decide (x0.o9 = x1.o9))) && b) && c) && e) && l) j)) (fun t => ?_) (fun t => ?_) ?_
    ·replace h := h.1 t
     have a := t
     simp only [m1 a]
     refine g9 Tryz.call47 h o ?_
     rintro _ j _ ab ac ao ap ⟨l, rfl, rfl, h⟩
     exact ⟨l, j, by rfl, ac, ap, ao, h⟩
    ·exact ⟨false, f, by rw [R8 t], o, fun _ _ _ => rfl, Hle.refl _, h.2 t⟩
    ·clear h
     rintro an ab ⟨l, j, rfl, ac, ap, ao, h⟩
     refine a7 (C1 _ _) ?_
     exact hR _ j _ _ ac.drop.drop ⟨((((((decide (x0.c8 = x1.c8)) && (decide (x0.o9 = x1.o9))) && b) && c) && e) && l), rfl, rfl, h⟩
def a1y (x0 : a8) (H : Hp) (K : b5 → Hp → Prop) : Prop :=
 (0 : Int) ≤ x0.fn ∧ (x0.fn : Int) < x0.fl.n ∧ ∃ a : b5, EltH H x0.fl x0.fn 5 (f9 a) ∧
 K a H
theorem a6L (x0) {H K} (h : a1y x0 H K) : B1 x0 H K := by
 intro g0
 refine Ct.of fun w0 w ps0 H0 R E I hR => c3X ?_
 unfold a1y at h
 unfold F51
 refine p6 I Tryz.zeroValue103 (cs := [(vi 0), (eS), (vi 0), (vi 0), (vi 0)]) rfl fun j k e l => ?_
 refine W4 e fun m b => ?_
 refine r8 (u2 _) ?_
 refine r8 b5M ?_
 refine r8 (u2 _) ?_
 refine r8 a2W ?_
 refine C4 (l1 Tryz.isAgg61 (b.bring 1) rfl) ?_
 refine C4 (l1 Tryz.isAgg3 (b.bring 1) rfl) ?_
 obtain ⟨f, g, a, c, h⟩ := h
 obtain ⟨n, p, i, c⟩ := c
 refine r8 (b4c i _ _ _ _ f g) ?_
 refine C4 (ldA (vs := (f9 a)) Tryz.isAgg103 Tryz.sizeOf103 rfl (b.atH c)) ?_
 refine i6 b Tryz.sizeOf103 (vs := (f9 a)) (cs' := (f9 a)) rfl rfl (nb rfl) rfl rfl fun q d r => ?_
 refine A5 Tryz.isAgg103 Tryz.sizeOf103 rfl (d.at1 (o := 0) (vs := (f9 a)) (nb rfl) rfl) ?_
 exact hR _ H _ _ d.drop ⟨a, rfl, rfl, h⟩
def U7 [PanQ] (U8 : (List g5)) (u5 : a8) (H : Hp) (K : Sl → a8 → Hp → Prop) : Prop :=
 ∀ (E3 : Sl) (a : Hp), Hle H a → SlH a 6 l8 E3 U8 → E3.n ≤ E3.c →
 K E3 u5 a
def U9 [PanQ] (a0g : Int) (y8 : (List g5)) (p5 : a8) (H : Hp) (n2 : ((List g5) × a8) → Hp → Prop) (K : Sl → a8 → Hp → Prop) : Prop :=
 u0 p5 ⟨#[125]⟩ H (fun b a c =>
 ((!b) = true →
 N8 a c (fun e f =>
 C2 a (IntKind.wrap .i64 (a0g + 1)) e f (fun g =>
 T5 a (IntKind.wrap .i64 (a0g + 1)) g (fun d i j =>
 (y8.length + ([d] : List g5).length) * 121 ≤ 140737488355328 ∧
 n2 ((y8 ++ [d]), i) j)))) ∧
 ((!b) = false →
 U7 y8 a c K))
def a1d [PanQ] (x0 : a8) (x1 : Int) (H : Hp) (K : Sl → a8 → Hp → Prop) : Prop :=
 B8 x0 ⟨#[123]⟩ H (fun a b =>
 TL (([], a) : (List g5) × a8) b fun (s : (List g5) × a8) H n2 => U9 x1 s.1 s.2 H n2 K)
theorem a6F [PanQ] (x0 : a8) (x1 : Int) {H : Hp} {K : Sl → a8 → Hp → Prop} (h : a1d x0 x1 H K) : S8 x0 x1 H K := by
 intro g0
 refine Ct.ofE fun w0 w ps0 H0 R E I hR hE => c1K ?_
 unfold a1d at h
 unfold c4G
 refine A0 hE Tryz.call103 (h g0) I ?_
 rintro _ o _ ao p _ _ ⟨q, rfl, rfl, h⟩
 have hj1 : ∀ (U8 : (List g5)) (u5 : a8) (E3 : Sl) (Fs5j1 : Frag) H w (_ : RowL 56 6 l8 E3 U8 Fs5j1) (_ : Inv w0 ps0 H0 H [bx g0 101 (b7 u5), Fs5j1] w) (_ : U7 U8 u5 H K), b2i (vs E3) w R E := by
  intro U8 u5 E3 Fs5j1 H w a7e I h
  unfold b2i
  intro _
  unfold U7 at h
  obtain ⟨i, r, t, u, v⟩ := Inv.freezeC (I.bring 1) a7e (by decide)
  replace h := h E3 i t u v
  exact hR _ i _ _ r ⟨E3, u5, rfl, rfl, h⟩
 refine z8 fun j1 hx1 => ?_
 obtain ⟨f, d, y, z⟩ := h
 refine G7 (J := fun n l w => ∃ (s : (List g5) × a8) (H : Hp) (V0 : Sl) (Fs5l2 : Frag) , n = d s ∧ l = (match s with | (y8, p5) => [(vs V0)]) ∧ (match s with | (y8, p5) => RowL 56 6 l8 V0 y8 Fs5l2) ∧ (match s with | (y8, p5) => Inv w0 ps0 H0 H [bx g0 101 (b7 p5), Fs5l2] w) ∧ f s H) ⟨_, ([], q), o, (Sl.mk none 0 0), [], rfl, rfl, (RowL.nil a5f a5g), (p.nil.bring 1), y⟩ ?_
 rintro ap aq w next2 ⟨⟨y8, p5⟩, H, V0, Fs5l2, rfl, g, a1M, I, aa⟩ hn2
 dsimp only at g I a1M
 simp only [List.map_cons, List.map_nil, List.cons.injEq, and_true] at g
 have e5 := g
 simp only [e5]
 obtain ⟨n2, hm2, h⟩ : ∃ n2 : ((List g5) × a8) → Hp → Prop, (∀ s' H', n2 s' H' → f s' H' ∧ d s' < d (y8, p5)) ∧ U9 x1 y8 p5 H n2 K := ⟨_, fun _ _ h => h, z (y8, p5) H (fun s' H' => f s' H' ∧ d s' < d (y8, p5)) aa (fun _ _ a b => ⟨a, b⟩)⟩
 unfold b6m
 unfold U9 at h
 refine g9 Tryz.call105 (h g0) I ?_
 rintro _ ab _ ar j _ _ ⟨au, ac, rfl, rfl, h⟩
 refine a7 (T2 _) ?_
 refine p7 h (fun _ h => ?_) (fun _ h => ?_)
 ·refine a7 pAd ?_
  refine g9 Tryz.call56 (h g0) j ?_
  rintro _ _ _ av ad _ _ ⟨aw, rfl, rfl, h⟩
  refine A0 hE Tryz.call55 (h g0) ad ?_
  rintro _ _ _ ax ae _ _ ⟨rfl, rfl, h⟩
  refine a7 pAd ?_
  refine A0 hE Tryz.call57 (h g0) ae ?_
  rintro _ af _ ay ag _ _ ⟨k, ah, rfl, rfl, h⟩
  refine W5 (e := 56) (c := l8) (xs := [k]) ag (b6h _ _ _ _ _ _ _ _ _ _ _ _ _ _) rfl rfl a5f a5g (nb rfl) fun az ba bb ai m bc => ?_
  obtain ⟨aj, h⟩ := h
  refine b8k (s := V0) (xs := y8) (m.bring 2) a1M (ai.srcO ((m.bring 2).bring 1)) aj fun ak al bd am an be => ?_
  exact hn2 _ _ _ (hm2 _ _ h).2 ⟨((y8 ++ [k]), ah), af, ak, al, rfl, rfl, am, ((an.bring 1).drop.bring 1), (hm2 _ _ h).1⟩
 ·exact hx1 _ _ (hj1 y8 ac V0 Fs5l2 ab _ a1M ((j.bring 1).bring 1) h)
def M7 [PanQ] (u5 : a8) (a : k7) (d : k7) (H : Hp) (K : k7 → a8 → Hp → Prop) : Prop :=
 B8 u5 ⟨#[59]⟩ H (fun b c =>
 K a b c)
def Q8 [PanQ] (a4j : a8) (a : k7) (b : k7) (H : Hp) (K : k7 → a8 → Hp → Prop) : Prop :=
 O9 a4j H (fun c d e =>
 B8 d ⟨#[93]⟩ e (fun f g =>
 M7 f (k7.mk a.o9 c.J5) b g K))
def a3Y [PanQ] (x0 : a8) (H : Hp) (K : k7 → a8 → Hp → Prop) : Prop :=
 i7 x0 ⟨#[97, 114, 114, 97, 121]⟩ H (fun d i =>
 a1p (a8.mk x0.fl (IntKind.wrap .i64 (x0.fn + 1))) 1 i (fun c e f =>
 (d = true →
 B8 e ⟨#[91]⟩ f (fun b j =>
 B1 b j (fun a g =>
 ((((!decide (a.c8 = 2)) || (decide (a.J5 < 1))) || (decide (2147483647 < a.J5))) = true →
 D8 b g (fun k =>
 Q8 b (k7.mk c.B6 0) (k7.mk ⟨#[]⟩ 0) k K)) ∧
 ((((!decide (a.c8 = 2)) || (decide (a.J5 < 1))) || (decide (2147483647 < a.J5))) = false →
 Q8 b (k7.mk c.B6 0) (k7.mk ⟨#[]⟩ 0) g K)))) ∧
 (d = false →
 M7 e (k7.mk c.B6 0) (k7.mk ⟨#[]⟩ 0) f K)))
theorem a6M [PanQ] (x0 : a8) {H : Hp} {K : k7 → a8 → Hp → Prop} (h : a3Y x0 H K) : Y0 x0 H K := by
 intro g0
 refine Ct.ofE fun w0 w ps0 H0 R E I hR hE => c4a ?_
 unfold a3Y at h
 unfold F54
 refine p6 I Tryz.zeroValue68 (cs := [(eS), (vi 0)]) rfl fun e al q am => ?_
 refine g9 Tryz.call53 (h g0) (q.bring 1) ?_
 rintro _ _ _ an j _ _ ⟨ao, rfl, rfl, h⟩
 refine a7 (u2 _) (a7 a2W (g6 (l1 Tryz.isAgg3 j rfl) (a7 pAd (a7 (u2 _) ?_))))
 refine a7 a2W ?_
 refine i6 j Tryz.sizeOf3 (vs := [(vi (IntKind.wrap .i64 (x0.fn + 1)))]) (cs' := [(vs x0.fl), (vi (IntKind.wrap .i64 (x0.fn + 1)))]) rfl rfl (nb rfl) rfl rfl fun ap r aq => ?_
 refine A0 hE Tryz.call102 (h g0) r ?_
 rintro _ s _ ar t _ _ ⟨c, u, rfl, rfl, h⟩
 refine a7 b4f (a7 (b5J _) ?_)
 refine p6 t Tryz.zeroValue68 (cs := [(eS), (vi 0)]) rfl fun f au v av => ?_
 refine i6 v Tryz.sizeOf68 (vs := [(Value.string c.B6), (vi 0)]) (cs' := [(Value.string c.B6), (vi 0)]) rfl rfl (nb rfl) rfl rfl fun aw k ax => ?_
 have hj1 : ∀ (u5 : a8) (d : k7) H w (_ : Inv w0 ps0 H0 H [bx g0 101 (b7 u5), bx f 68 (y3 d), bx e 68 [(Value.string (k7.mk ⟨#[]⟩ 0).o9), (vi (k7.mk ⟨#[]⟩ 0).a0o)]] w) (_ : M7 u5 d (k7.mk ⟨#[]⟩ 0) H K), b4w (Value.pointer (some ⟨g0, 0, none⟩)) (Value.pointer (some ⟨e, 0, none⟩)) (Value.pointer (some ⟨f, 0, none⟩)) w R E := by
  intro u5 d H w I h
  unfold b4w
  intro _
  unfold M7 at h
  refine A0 hE Tryz.call103 (h g0) I ?_
  rintro _ y _ ay l _ _ ⟨z, rfl, rfl, h⟩
  refine g6 (lW Tryz.isAgg68 Tryz.sizeOf68 rfl (l.bring 1)) ?_
  refine i6 (l.bring 2) Tryz.sizeOf68 (vs := (y3 d)) (cs' := (y3 d)) rfl rfl (nb rfl) rfl rfl fun az m ba => ?_
  refine A5 Tryz.isAgg68 Tryz.sizeOf68 rfl (m.at1 (o := 0) (vs := (y3 d)) (nb rfl) rfl) ?_
  exact hR _ y _ _ (m.drop.bring 1).drop ⟨d, z, rfl, rfl, h⟩
 refine z8 fun j1 hx1 => ?_
 refine p7 h (fun _ h => ?_) (fun _ h => ?_)
 ·refine A0 hE Tryz.call103 (h g0) (k.bring 1) ?_
  rintro _ _ _ bb aa _ _ ⟨n, rfl, rfl, h⟩
  have hj2 : ∀ H w (_ : Inv w0 ps0 H0 H [bx g0 101 (b7 n), bx f 68 [(Value.string (k7.mk c.B6 0).o9), (vi (k7.mk c.B6 0).a0o)], bx e 68 [(Value.string (k7.mk ⟨#[]⟩ 0).o9), (vi (k7.mk ⟨#[]⟩ 0).a0o)]] w) (_ : Q8 n (k7.mk c.B6 0) (k7.mk ⟨#[]⟩ 0) H K), b4x (Value.pointer (some ⟨g0, 0, none⟩)) (Value.pointer (some ⟨e, 0, none⟩)) (Value.pointer (some ⟨f, 0, none⟩)) w j1 R E := by
   intro H w I h
   unfold b4x
   intro _
   unfold Q8 at h
   refine A0 hE Tryz.call104 (h g0) I ?_
   rintro _ _ _ bc ab _ _ ⟨i, bd, rfl, rfl, h⟩
   refine a7 b4g (a7 a8E ?_)
   refine i6 (ab.bring 1) Tryz.sizeOf3 (vs := [(vi i.J5)]) (cs' := [(Value.string (k7.mk c.B6 0).o9), (vi i.J5)]) rfl rfl (nb rfl) rfl rfl fun be ac bf => ?_
   refine A0 hE Tryz.call103 (h g0) (ac.bring 1) ?_
   rintro _ ad _ bg ae _ _ ⟨af, rfl, rfl, h⟩
   exact hx1 _ _ (hj1 af (k7.mk (k7.mk c.B6 0).o9 i.J5) ad _ (((ae.bring 2).bring 2).bring 2) h)
  refine z8 fun j2 hx2 => ?_
  refine g9 Tryz.call51 (h g0) aa ?_
  rintro _ ag _ bh ah _ _ ⟨p, rfl, rfl, h⟩
  refine p6 ah Tryz.zeroValue103 (cs := [(vi 0), (eS), (vi 0), (vi 0), (vi 0)]) rfl fun bi bj ai bk => ?_
  refine i6 ai Tryz.sizeOf103 (vs := (f9 p)) (cs' := (f9 p)) rfl rfl (nb rfl) rfl rfl fun bl b bm => ?_
  refine a7 a0L (g6 (l1 Tryz.isAgg3 b rfl) (a7 pNe ?_))
  refine a7 (Pu.g fun a => by with_reducible exact a6q) ?_
  refine g6 (Ld.g fun a => by simp only [m1 a]; exact (l1 Tryz.isAgg2 b rfl)) ?_
  refine a7 (Pu.g fun a => by simp only [m1 a]; with_reducible exact pLs) ?_
  refine a7 (P6 _ _) ?_
  refine a7 (Pu.g fun a => by with_reducible exact a6q) ?_
  refine g6 (Ld.g fun a => by simp only [m1 a]; exact (l1 Tryz.isAgg2 b rfl)) ?_
  refine a7 (Pu.g fun a => by simp only [m1 a]; with_reducible exact pGt) ?_
  refine a7 (P6 _ _) ?_
  refine p7 h (fun _ h => ?_) (fun _ h => ?_)
  ·refine A0 hE Tryz.call52 (h g0) (b.bring 1) ?_
   rintro _ aj _ bn ak _ _ ⟨rfl, rfl, h⟩
   exact hx2 _ _ (hj2 aj _ ((((ak.bring 1).drop.bring 2).bring 2).bring 2) h)
  ·exact hx2 _ _ (hj2 ag _ (((b.drop.bring 2).bring 2).bring 2) h)
 ·exact hx1 _ _ (hj1 u (k7.mk c.B6 0) s _ (((k.bring 2).bring 1).bring 2) h)
def V3 [PanQ] (a4j : a8) (f : (List k7)) (g : (List g5)) (i : l7) (H : Hp) (K : l7 → a8 → Hp → Prop) : Prop :=
 ∀ (a : Sl) (d : Hp), Hle H d → SlH d 2 y3 a f → a.n ≤ a.c →
 ∀ (b : Sl) (e : Hp), Hle d e → SlH e 6 l8 b g → b.n ≤ b.c →
 K (l7.mk a b) a4j e
def V4 [PanQ] (f : (List k7)) (a3l : a8) (a : (List g5)) (b : l7) (H : Hp) (n3 : (a8 × (List g5) × l7) → Hp → Prop) (K : l7 → a8 → Hp → Prop) : Prop :=
 B1 a3l H (fun c d =>
 (¬ (c.c8 = 5) →
 N8 a3l d (fun g i =>
 C2 a3l 1 g i (fun j =>
 T5 a3l 1 j (fun e k l =>
 (a.length + ([e] : List g5).length) * 121 ≤ 140737488355328 ∧
 n3 (k, (a ++ [e]), b) l)))) ∧
 (c.c8 = 5 →
 V3 a3l f a b d K))
def Q9 [PanQ] (u5 : a8) (a : (List k7)) (b : (List g5)) (c : l7) (H : Hp) (K : l7 → a8 → Hp → Prop) : Prop :=
 TL ((u5, b, c) : a8 × (List g5) × l7) H fun (s : a8 × (List g5) × l7) H n3 => V4 a s.1 s.2.1 s.2.2 H n3 K
def V5 [PanQ] (a : (List k7)) (c : (List g5)) (d : l7) (a1k : a8) (H : Hp) (n4 : ((List k7) × (List g5) × l7 × a8) → Hp → Prop) (K : l7 → a8 → Hp → Prop) : Prop :=
 i7 a1k ⟨#[118, 97, 114]⟩ H (fun b e =>
 TG (b = false) (i7 a1k ⟨#[97, 114, 114, 97, 121]⟩ e) false e (fun (f : Bool) (g : Hp) =>
 ((b || f) = true →
 Y0 a1k g (fun i j k =>
 (a.length + ([i] : List k7).length) * 25 ≤ 140737488355328 ∧
 n4 ((a ++ [i]), c, d, j) k)) ∧
 ((b || f) = false →
 Q9 a1k a c d g K)))
def a1z [PanQ] (x0 : a8) (H : Hp) (K : l7 → a8 → Hp → Prop) : Prop :=
 TL (([], [], (l7.mk (Sl.mk none 0 0) (Sl.mk none 0 0)), x0) : (List k7) × (List g5) × l7 × a8) H fun (s : (List k7) × (List g5) × l7 × a8) H n4 => V5 s.1 s.2.1 s.2.2.1 s.2.2.2 H n4 K
theorem a6N [PanQ] (x0 : a8) {H : Hp} {K : l7 → a8 → Hp → Prop} (h : a1z x0 H K) : a1q x0 H K := by
 intro g0
 refine Ct.ofE fun w0 w ps0 H0 R E I hR hE => c3L ?_
 unfold a1z at h
 unfold F21
 refine p6 I Tryz.zeroValue26 (cs := [(nS), (nS)]) rfl fun r dt cb du => ?_
 refine p6 cb Tryz.zeroValue26 (cs := [(nS), (nS)]) rfl fun t dv cc dw => ?_
 have hj1 : ∀ (u5 : a8) (ab : (List k7)) (ai : (List g5)) (aj : l7) (g : Sl) (ac : Frag) (ak : Sl) (al : Frag) H w (_ : RowL 68 2 y3 g ab ac) (_ : RowL 56 6 l8 ak ai al) (_ : Inv w0 ps0 H0 H [bx g0 101 (b7 u5), bx t 26 [(vs g), (vs ak)], bx r 26 (l9 aj), ac, al] w) (_ : Q9 u5 ab ai aj H K), b4q (Value.pointer (some ⟨g0, 0, none⟩)) (Value.pointer (some ⟨r, 0, none⟩)) (Value.pointer (some ⟨t, 0, none⟩)) w R E := by
  intro u5 ab ai aj g ac ak al H w cd ce I h
  unfold b4q
  intro _
  unfold Q9 at h
  have hj2 : ∀ (a4j : a8) (ar : (List k7)) (au : (List g5)) (av : l7) (aw : Frag) (p : Sl) (ax : Frag) H w (_ : RowL 68 2 y3 g ar aw) (_ : RowL 56 6 l8 p au ax) (_ : Inv w0 ps0 H0 H [bx g0 101 (b7 a4j), bx t 26 [(vs g), (vs p)], bx r 26 (l9 av), aw, ax] w) (_ : V3 a4j ar au av H K), b4p (Value.pointer (some ⟨r, 0, none⟩)) (Value.pointer (some ⟨t, 0, none⟩)) w R E := by
   intro a4j ar au av aw p ax H w cf cg I h
   unfold b4p
   intro _
   unfold V3 at h
   refine g6 (ldA Tryz.isAgg26 Tryz.sizeOf26 rfl ((I.bring 1).at1 (o := 0) (vs := [(vs g), (vs p)]) (nb rfl) rfl)) ?_
   refine i6 (I.bring 2) Tryz.sizeOf26 (vs := [(vs g), (vs p)]) (cs' := [(vs g), (vs p)]) rfl rfl (nb rfl) rfl rfl fun dx bi dy => ?_
   refine A5 Tryz.isAgg26 Tryz.sizeOf26 rfl (bi.at1 (o := 0) (vs := [(vs g), (vs p)]) (nb rfl) rfl) ?_
   obtain ⟨ch, ci, cj, ck, cl⟩ := Inv.freezeC (bi.bring 3) cf (by decide)
   replace h := h g ch cj ck cl
   obtain ⟨bj, cm, cn, co, cp⟩ := Inv.freezeC (ci.bring 3) cg (by decide)
   replace h := h p bj cn co cp
   exact hR _ bj _ _ (cm.drop.bring 1).drop ⟨(l7.mk g p), a4j, rfl, rfl, h⟩
  refine z8 fun j2 hx2 => ?_
  obtain ⟨ay, ad, cq, cr⟩ := h
  refine G7 (J := fun n l w => ∃ (s : a8 × (List g5) × l7) (H : Hp) (ae : Sl) (am : Frag) , n = ad s ∧ l = (match s with | (a3l, k, m) => []) ∧ (match s with | (a3l, k, m) => RowL 56 6 l8 ae k am) ∧ (match s with | (a3l, k, m) => Inv w0 ps0 H0 H [bx g0 101 (b7 a3l), bx t 26 [(vs g), (vs ae)], bx r 26 (l9 m), ac, am] w) ∧ ay s H) ⟨_, (u5, ai, aj), H, ak, al, rfl, rfl, ce, (((((I.bring 4).bring 4).bring 4).bring 4).bring 4), cq⟩ ?_
  rintro dz ea w next3 ⟨⟨a3l, k, m⟩, H, ae, am, rfl, bk, az, I, ct⟩ hn3
  dsimp only at bk I az
  clear bk
  obtain ⟨n3, hm3, h⟩ : ∃ n3 : (a8 × (List g5) × l7) → Hp → Prop, (∀ s' H', n3 s' H' → ay s' H' ∧ ad s' < ad (a3l, k, m)) ∧ V4 ab a3l k m H n3 K := ⟨_, fun _ _ h => h, cr (a3l, k, m) H (fun s' H' => ay s' H' ∧ ad s' < ad (a3l, k, m)) ct (fun _ _ a b => ⟨a, b⟩)⟩
  unfold b8u
  unfold V4 at h
  refine g9 Tryz.call51 (h g0) I ?_
  rintro _ cu _ eb bl _ _ ⟨ec, rfl, rfl, h⟩
  refine a7 a5E (a7 pNe ?_)
  refine a1T h (fun _ h => ?_) (fun _ h => ?_)
  ·refine g9 Tryz.call56 (h g0) bl ?_
   rintro _ _ _ ed cv _ _ ⟨ee, rfl, rfl, h⟩
   refine A0 hE Tryz.call55 (h g0) cv ?_
   rintro _ _ _ ef cw _ _ ⟨rfl, rfl, h⟩
   refine W4 cw fun eg an => ?_
   refine r8 a2M ?_
   refine C4 (l1 Tryz.isAgg24 (an.bring 1) rfl) ?_
   refine A0 hE Tryz.call57 (h g0) an ?_
   rintro _ cx _ eh bm _ cy ⟨bn, cz, rfl, rfl, h⟩
   refine ⟨(cy _ (an.bring 1).lt1 (Inv.Z9 (Fi := [bx g0 101 (b7 a3l)]) ((an.bring 1).bring 1))), ?_⟩
   refine W5 (e := 56) (c := l8) (xs := [bn]) bm (b6h _ _ _ _ _ _ _ _ _ _ _ _ _ _) rfl rfl a5f a5g (nb rfl) fun ei ej ek da bo db => ?_
   refine ⟨(db _ (bm.bring 1).lt1), ?_⟩
   obtain ⟨dc, h⟩ := h
   refine b8k (s := ae) (xs := k) (bo.bring 5) az (da.srcO ((bo.bring 5).bring 1)) dc fun ba dd el de df em => ?_
   refine r8 a2M ?_
   refine i6 ((df.bring 1).drop.bring 2) Tryz.sizeOf24 (vs := [(vs ba)]) (cs' := [(vs g), (vs ba)]) rfl rfl (nb rfl) rfl rfl fun en dg eo => ?_
   exact hn3 _ _ _ (hm3 _ _ h).2 ⟨(cz, (k ++ [bn]), m), cx, ba, dd, rfl, rfl, de, (((((dg.bring 1).bring 4).bring 4).bring 3).bring 4), (hm3 _ _ h).1⟩
  ·exact hx2 _ _ (hj2 a3l ab k m ac ae am cu _ cd az (((((bl.bring 4).bring 4).bring 4).bring 4).bring 4) h)
 refine z8 fun j1 hx1 => ?_
 obtain ⟨bb, af, dh, di⟩ := h
 refine G7 (J := fun n l w => ∃ (s : (List k7) × (List g5) × l7 × a8) (H : Hp) (y : Sl) (ag : Frag) (u : Sl) (z : Frag) , n = af s ∧ l = (match s with | (d, j, f, a1k) => []) ∧ (match s with | (d, j, f, a1k) => RowL 68 2 y3 y d ag) ∧ (match s with | (d, j, f, a1k) => RowL 56 6 l8 u j z) ∧ (match s with | (d, j, f, a1k) => Inv w0 ps0 H0 H [bx t 26 [(vs y), (vs u)], bx r 26 (l9 f), bx g0 101 (b7 a1k), ag, z] w) ∧ bb s H) ⟨_, ([], [], (l7.mk (Sl.mk none 0 0) (Sl.mk none 0 0)), x0), H, (Sl.mk none 0 0), [], (Sl.mk none 0 0), [], rfl, rfl, (RowL.nil a9i a9j), (RowL.nil a5f a5g), ((((cc.nil.nil.bring 1).bring 4).bring 4).bring 4), dh⟩ ?_
 rintro ep eq w next4 ⟨⟨d, j, f, a1k⟩, H, y, ag, u, z, rfl, bp, bc, bd, I, dj⟩ hn4
 dsimp only at bp I bc bd
 clear bp
 obtain ⟨n4, hm4, h⟩ : ∃ n4 : ((List k7) × (List g5) × l7 × a8) → Hp → Prop, (∀ s' H', n4 s' H' → bb s' H' ∧ af s' < af (d, j, f, a1k)) ∧ V5 d j f a1k H n4 K := ⟨_, fun _ _ h => h, di (d, j, f, a1k) H (fun s' H' => bb s' H' ∧ af s' < af (d, j, f, a1k)) dj (fun _ _ a b => ⟨a, b⟩)⟩
 unfold b8v
 unfold V5 at h
 refine g9 Tryz.call53 (h g0) (I.bring 2) ?_
 rintro _ bq _ br bs _ _ ⟨be, rfl, rfl, h⟩
 simp only [E5]
 refine G6 (D := fun bt ao => ∃ (aa : Bool) (q : Hp) , bt = (gv be false (vB aa)) ∧ (Inv w0 ps0 H0 q [bx g0 101 (b7 a1k), bx t 26 [(vs y), (vs u)], bx r 26 (l9 f), ag, z] ao) ∧ (∀ i, i < br.heap.size → ¬ inF [bx g0 101 (b7 a1k)] i → ao.heap[i]? = br.heap[i]?) ∧ Hle bq q ∧ (((be || aa) = true →
 Y0 a1k q (fun (ah : k7) (bf : a8) (bg : Hp) =>
 (d.length + ([ah] : List k7).length) * 25 ≤ 140737488355328 ∧
 n4 ((d ++ [ah]), j, f, bf) bg)) ∧
 ((be || aa) = false →
 Q9 a1k d j f q K))) (fun v => ?_) (fun v => ?_) ?_
 ·replace h := h.1 v
  have bu := v
  simp only [m1 bu]
  refine g9 Tryz.call53 (h g0) bs ?_
  rintro _ q _ ao ap bv bw ⟨aa, rfl, rfl, h⟩
  exact ⟨aa, q, by rfl, ap, bw, bv, h⟩
 ·exact ⟨false, bq, by rw [R8 v], bs, fun _ _ _ => rfl, Hle.refl _, h.2 v⟩
 ·clear h
  rintro bt ao ⟨aa, q, rfl, ap, bw, bv, h⟩
  refine a7 (P6 _ _) ?_
  refine p7 h (fun _ h => ?_) (fun _ h => ?_)
  ·refine W4 ap fun er aq => ?_
   refine r8 a4E ?_
   refine C4 (l1 Tryz.isAgg23 (aq.bring 1) rfl) ?_
   refine A0 hE Tryz.call54 (h g0) aq ?_
   rintro _ bg _ es bz _ dk ⟨ah, bf, rfl, rfl, h⟩
   refine ⟨(dk _ (aq.bring 1).lt1 (Inv.Z9 (Fi := [bx g0 101 (b7 a1k)]) ((aq.bring 1).bring 1))), ?_⟩
   refine W5 (e := 68) (c := y3) (xs := [ah]) bz (c1v _ _) rfl rfl a9i a9j (nb rfl) fun et eu ev dl ca dm => ?_
   refine ⟨(dm _ (bz.bring 1).lt1), ?_⟩
   obtain ⟨dn, h⟩ := h
   refine c3z (s := y) (xs := d) (ca.bring 4) bc (dl.srcO ((ca.bring 4).bring 1)) dn fun bh dp ew dq dr ex => ?_
   refine r8 a4E ?_
   refine i6 ((dr.bring 1).drop.bring 2) Tryz.sizeOf23 (vs := [(vs bh)]) (cs' := [(vs bh), (vs u)]) rfl rfl (nb rfl) rfl rfl fun ey ds ez => ?_
   exact hn4 _ _ _ (hm4 _ _ h).2 ⟨((d ++ [ah]), j, f, bf), bg, bh, dp, u, z, rfl, rfl, dq, bd, (((((ds.bring 4).bring 2).bring 3).bring 4).bring 4), (hm4 _ _ h).1⟩
  ·exact hx1 _ _ (hj1 a1k d j f y ag u z q _ bc bd (((((ap.bring 4).bring 4).bring 4).bring 4).bring 4) h)
def a3e (H : Hp) (K : Int → Int → Hp → Prop) : Prop :=
 K 0 0 H
def a0Q (b2H : ByteArray) (b : ByteArray) (a : Nat) (H : Hp) (n2 : Nat → Hp → Prop) (K : Int → Int → Hp → Prop) : Prop :=
 (a < b.size →
 (¬ (((Utf8.decode b a).1 : Int) = 65533) →
 n2 (a + (Utf8.decode b a).2) H) ∧
 (((Utf8.decode b a).1 : Int) = 65533 →
 (0 : Int) ≤ ((a : Nat) : Int) ∧ (((a : Nat) : Int) : Int) ≤ b2H.size ∧
 X7 (b2H.extract (((a : Nat) : Int) : Int).toNat b2H.size) H (fun e c d =>
 (c = 1 →
 K ((a : Nat) : Int) 11 d) ∧
 (¬ (c = 1) →
 n2 (a + (Utf8.decode b a).2) d)))) ∧
 (¬ (a < b.size) →
 a3e H K)
def a4f (x0 : ByteArray) (H : Hp) (K : Int → Int → Hp → Prop) : Prop :=
 (65536 < (x0.size : Int) →
 K 0 10 H) ∧
 (¬ (65536 < (x0.size : Int)) →
 TL (0 : Nat) H fun (s : Nat) H n2 => a0Q x0 x0 s H n2 K)
theorem a9n (x0) {H K} (h : a4f x0 H K) : a5W x0 H K := by
 refine Ct.of fun w0 w ps0 H0 R E I hR => c4x ?_
 unfold a4f at h
 unfold F97
 refine a7 (a5i _) (a7 pGt ?_)
 refine m6 h (fun _ h => ?_) (fun _ h => ?_)
 ·exact hR _ H _ _ I ⟨0, 10, rfl, rfl, h⟩
 ·have hj1 : ∀ H w (_ : Inv w0 ps0 H0 H [] w) (_ : a3e H K), b4P w R E := by
   intro H w I h
   unfold b4P
   intro _
   unfold a3e at h
   exact hR _ H _ _ I ⟨0, 0, rfl, rfl, h⟩
  refine z8 fun j1 hx1 => ?_
  refine a9U Tryz.underlying9 x0 I fun m aa o ab => ?_
  obtain ⟨f, d, p, q⟩ := h
  refine G7 (J := fun n l w => ∃ (s : Nat) (H : Hp) , n = d s ∧ l = [] ∧ Inv w0 ps0 H0 H [itf m x0 s] w ∧ f s H) ⟨_, 0, H, rfl, rfl, o, p⟩ ?_
  rintro ac ad w next2 ⟨c, H, rfl, r, I, t⟩ hn2
  clear r
  obtain ⟨n2, hm2, h⟩ : ∃ n2 : Nat → Hp → Prop, (∀ s' H', n2 s' H' → f s' H' ∧ d s' < d c) ∧ a0Q x0 x0 c H n2 K := ⟨_, fun _ _ h => h, q c H (fun s' H' => f s' H' ∧ d s' < d c) t (fun _ _ a b => ⟨a, b⟩)⟩
  unfold b8M
  unfold a0Q at h
  refine b1p I (fun g ae i af => ?_) (fun g => ?_)
  ·replace h := h.1 g
   refine a7 (j9 _ _ (vB true) rfl) ?_
   refine a1h (fun e => ?_) (fun e => by cases e)
   refine a7 (j9 _ _ (vi ((c : Nat) : Int)) rfl) (a7 (j9 _ _ (Value.int .i32 ((Utf8.decode x0 c).1 : Int)) rfl) (a7 pNe ?_))
   refine a1T h (fun _ h => ?_) (fun _ h => ?_)
   ·exact hn2 _ _ _ (hm2 _ _ h).2 ⟨(c + (Utf8.decode x0 c).2), H, rfl, rfl, i, (hm2 _ _ h).1⟩
   ·obtain ⟨u, v, h⟩ := h
    refine a7 (b6e x0 Tryz.underlying9 u v) ?_
    refine g9 Tryz.call128 h i ?_
    rintro _ j _ ag k _ _ ⟨y, z, rfl, rfl, h⟩
    refine a7 (j9 _ _ (Value.int .i32 y) rfl) (a7 (j9 _ _ (vi z) rfl) (a7 pEq ?_))
    refine m6 h (fun _ h => ?_) (fun _ h => ?_)
    ·exact hR _ j _ _ k.drop ⟨((c : Nat) : Int), 11, rfl, rfl, h⟩
    ·exact hn2 _ _ _ (hm2 _ _ h).2 ⟨(c + (Utf8.decode x0 c).2), j, rfl, rfl, k, (hm2 _ _ h).1⟩
  ·replace h := h.2 g
   refine a7 (j9 _ _ (vB false) rfl) ?_
   refine a1h (fun e => by cases e) (fun e => ?_)
   exact hx1 _ _ (hj1 H _ I.drop h)
def y5 (a1x : Int) (t7 : ByteArray) (t8 : Int) (y9 : b8) (C3 : (List b5)) (H : Hp) (K : ByteArray → d7 → (List b5) → Hp → Prop) : Prop :=
 (0 : Int) ≤ a1x ∧ (a1x : Int) ≤ t8 ∧ (t8 : Int) ≤ t7.size ∧
 K (t7.extract (a1x : Int).toNat (t8 : Int).toNat) (d7.mk t7 t8 y9 (Sl.mk none 0 0)) C3 H
def A7 (b0V : Int) (H9 : Int) (A4 : Bool) (p8 : ByteArray) (p9 : Int) (o6 : b8) (o7 : (List b5)) (H : Hp) (n2 : (Int × Bool × ByteArray × Int × b8 × (List b5)) → Hp → Prop) (K : ByteArray → d7 → (List b5) → Hp → Prop) : Prop :=
 TG (A4 = true) (a0w H9 H) false H (fun (b : Bool) (c : Hp) =>
 ((A4 && b) = true →
 B3 (d7.mk p8 p9 o6 (Sl.mk none 0 0)) o7 c (fun a d e =>
 z7 (s7 a) d e (fun f g i =>
 n2 (f, g, a.fs, a.fn, a.fat, d) i))) ∧
 ((A4 && b) = false →
 y5 b0V p8 p9 o6 o7 c K))
def L1 (x0 : d7) (a : (List b5)) (H : Hp) (K : ByteArray → d7 → (List b5) → Hp → Prop) : Prop :=
 z7 (s7 x0) a H (fun b c d =>
 TL ((b, c, x0.fs, x0.fn, x0.fat, a) : Int × Bool × ByteArray × Int × b8 × (List b5)) d fun (s : Int × Bool × ByteArray × Int × b8 × (List b5)) H n2 => A7 x0.fn s.1 s.2.1 s.2.2.1 s.2.2.2.1 s.2.2.2.2.1 s.2.2.2.2.2 H n2 K)
theorem a0R (x0 q) {H K} (h : L1 x0 q H K) : K9 x0 q H K := by
 intro g0 y z aa
 refine Ct.of fun w0 w ps0 H0 R E I hR => a9X ?_
 unfold L1 at h
 unfold b4R
 refine a7 (u2 _) (a7 V9 (g6 (l1 Tryz.isAgg3 I rfl) ?_))
 have hj1 : ∀ (t7 : ByteArray) (t8 : Int) (y9 : b8) (C3 : (List b5)) (T1 : Sl) (M5 : Frag) H w (_ : RowL 103 5 f9 T1 C3 M5) (_ : Inv w0 ps0 H0 H [bx g0 155 [(Value.string t7), (vi t8), (vi y9.D9), (vi y9.L6), (vs T1)], M5] w) (_ : y5 x0.fn t7 t8 y9 C3 H K), a4L (Value.pointer (some ⟨g0, 0, none⟩)) (vi x0.fn) w R E := by
  intro t7 t8 y9 C3 T1 M5 H w a2Z I h
  unfold a4L
  intro _
  unfold y5 at h
  refine W4 I fun ax r => ?_
  refine r8 (u2 _) ?_
  refine r8 a5c ?_
  refine r8 (u2 _) ?_
  refine r8 V9 ?_
  refine C4 (l1 Tryz.isAgg9 r rfl) ?_
  refine C4 (l1 Tryz.isAgg3 r rfl) ?_
  obtain ⟨ak, al, am, h⟩ := h
  refine r8 (a8C t7 Tryz.underlying9 ak al am) ?_
  exact hR _ H _ _ ((r.bring 1).bring 1) ⟨(t7.extract (x0.fn : Int).toNat (t8 : Int).toNat), (d7.mk t7 t8 y9 (Sl.mk none 0 0)), C3, T1, M5, rfl, rfl, a2Z, h⟩
 refine z8 fun j1 hx1 => ?_
 refine g9 Tryz.call100 (h g0 y z aa) ((I.bring 1).bring 1) ?_
 rintro _ an _ ay ao _ _ ⟨ab, ac, rfl, rfl, h⟩
 refine a7 (j9 _ _ (Value.int .i32 ab) rfl) (a7 (j9 _ _ (vB ac) rfl) ?_)
 obtain ⟨t, g, ap, aq⟩ := h
 refine G7 (J := fun n l w => ∃ (s : Int × Bool × ByteArray × Int × b8 × (List b5)) (H : Hp) (K4 : Sl) (D7 : Frag) , n = g s ∧ l = (match s with | (H9, A4, p8, p9, o6, o7) => [(Value.int .i32 H9), (vB A4)]) ∧ (match s with | (H9, A4, p8, p9, o6, o7) => RowL 103 5 f9 K4 o7 D7) ∧ (match s with | (H9, A4, p8, p9, o6, o7) => Inv w0 ps0 H0 H [bx g0 155 [(Value.string p8), (vi p9), (vi o6.D9), (vi o6.L6), (vs K4)], D7] w) ∧ t s H) ⟨_, (ab, ac, x0.fs, x0.fn, x0.fat, q), an, y, z, rfl, rfl, aa, ((ao.bring 1).bring 1), ap⟩ ?_
 rintro az ba w next2 ⟨⟨H9, A4, p8, p9, o6, o7⟩, H, K4, D7, rfl, u, Q1, I, ar⟩ hn2
 dsimp only at u I Q1
 simp only [List.map_cons, List.map_nil, List.cons.injEq, and_true] at u
 obtain ⟨e6, e7⟩ := u
 simp only [e6, e7]
 obtain ⟨n2, hm2, h⟩ : ∃ n2 : (Int × Bool × ByteArray × Int × b8 × (List b5)) → Hp → Prop, (∀ s' H', n2 s' H' → t s' H' ∧ g s' < g (H9, A4, p8, p9, o6, o7)) ∧ A7 x0.fn H9 A4 p8 p9 o6 o7 H n2 K := ⟨_, fun _ _ h => h, aq (H9, A4, p8, p9, o6, o7) H (fun s' H' => t s' H' ∧ g s' < g (H9, A4, p8, p9, o6, o7)) ar (fun _ _ a b => ⟨a, b⟩)⟩
 unfold a8p
 unfold A7 at h
 simp only [E5]
 refine G6 (D := fun ad j => ∃ (f : Bool) (c : Hp) , ad = (gv A4 true (vB f)) ∧ (Inv w0 ps0 H0 c [bx g0 155 [(Value.string p8), (vi p9), (vi o6.D9), (vi o6.L6), (vs K4)], D7] j) ∧ (∀ i, i < w.heap.size → ¬ inF [] i → j.heap[i]? = w.heap[i]?) ∧ Hle H c ∧ (((A4 && f) = true →
 B3 (d7.mk p8 p9 o6 (Sl.mk none 0 0)) o7 c (fun (d : d7) (k : (List b5)) (au : Hp) =>
 z7 (s7 d) k au (fun (m : Int) (o : Bool) (v : Hp) =>
 n2 (m, o, d.fs, d.fn, d.fat, k) v))) ∧
 ((A4 && f) = false →
 y5 x0.fn p8 p9 o6 o7 c K))) (fun e => ?_) (fun e => ?_) ?_
 ·replace h := h.1 e
  have ae := e
  simp only [m1 ae]
  refine g9 Tryz.call136 h I ?_
  rintro _ c _ j p af ag ⟨f, rfl, rfl, h⟩
  exact ⟨f, c, by rfl, p, ag, af, h⟩
 ·exact ⟨false, H, by rw [R8 e], I, fun _ _ _ => rfl, Hle.refl _, h.2 e⟩
 ·clear h
  rintro ad j ⟨f, c, rfl, p, ag, af, h⟩
  refine a7 (C1 _ _) ?_
  refine p7 h (fun _ h => ?_) (fun _ h => ?_)
  ·refine g9 Tryz.call152 (h g0 K4 D7 Q1) ((p.bring 1).bring 1) ?_
   rintro _ _ _ bb av _ _ ⟨d, k, ah, ai, rfl, rfl, aj, h⟩
   refine g9 Tryz.call100 (h g0 ah ai aj) ((av.bring 1).bring 1) ?_
   rintro _ v _ bc aw _ _ ⟨m, o, rfl, rfl, h⟩
   refine a7 (j9 _ _ (Value.int .i32 m) rfl) (a7 (j9 _ _ (vB o) rfl) ?_)
   exact hn2 _ _ _ (hm2 _ _ h).2 ⟨(m, o, d.fs, d.fn, d.fat, k), v, ah, ai, rfl, rfl, aj, ((aw.bring 1).bring 1), (hm2 _ _ h).1⟩
  ·exact hx1 _ _ (hj1 p8 p9 o6 o7 K4 D7 c _ Q1 ((p.bring 1).bring 1) h)
def a0A (x0 : Int) (H : Hp) (K : Bool → Hp → Prop) : Prop :=
 R1 x0 H (fun a b =>
 K ((decide (a = 1)) || (decide (a = 2))) b)
theorem a6e (x0) {H K} (h : a0A x0 H K) : a0x x0 H K := by
 refine Ct.of fun w0 w ps0 H0 R E I hR => c1T ?_
 unfold a0A at h
 unfold c4P
 refine g9 Tryz.call132 h I ?_
 rintro _ c _ e d _ _ ⟨b, rfl, rfl, h⟩
 refine a7 pEq ?_
 simp only [E5]
 refine a7 (Pu.g fun a => by simp only [m1 a]; with_reducible exact pEq) ?_
 refine a7 (P6 _ _) ?_
 exact hR _ c _ _ d ⟨((decide (b = 1)) || (decide (b = 2))), rfl, rfl, h⟩
def V6 (a1Q : ByteArray) (a1R : Int) (a1l : b8) (a0B : (List b5)) (H : Hp) (n1 : (ByteArray × Int × b8 × (List b5)) → Hp → Prop) (K : d7 → (List b5) → Hp → Prop) : Prop :=
 S1 (d7.mk a1Q a1R a1l (Sl.mk none 0 0)) a0B H (fun d e =>
 a2s d ⟨#[35]⟩ e (fun b c =>
 (b = true →
 K9 (d7.mk a1Q a1R a1l (Sl.mk none 0 0)) a0B c (fun l f g i =>
 E2 (s7 f) g i (fun m a j k =>
 n1 (a.fs, a.fn, a.fat, j) k))) ∧
 (b = false →
 K (d7.mk a1Q a1R a1l (Sl.mk none 0 0)) a0B c)))
def a1A (x0 : d7) (b : (List b5)) (H : Hp) (K : d7 → (List b5) → Hp → Prop) : Prop :=
 E2 (s7 x0) b H (fun e a c d =>
 TL ((a.fs, a.fn, a.fat, c) : ByteArray × Int × b8 × (List b5)) d fun (s : ByteArray × Int × b8 × (List b5)) H n1 => V6 s.1 s.2.1 s.2.2.1 s.2.2.2 H n1 K)
theorem a6O (x0 g) {H K} (h : a1A x0 g H K) : Y1 x0 g H K := by
 intro g0 k m o
 refine Ct.of fun w0 w ps0 H0 R E I hR => c4y ?_
 unfold a1A at h
 unfold F99
 refine g9 Tryz.call133 (h g0 k m o) ((I.bring 1).bring 1) ?_
 rintro _ p _ an q _ _ ⟨ao, d, r, t, u, rfl, rfl, v, h⟩
 obtain ⟨e, c, y, z⟩ := h
 refine G7 (J := fun n l w => ∃ (s : ByteArray × Int × b8 × (List b5)) (H : Hp) (a6f : Sl) (a6g : Frag) , n = c s ∧ l = (match s with | (a1Q, a1R, a1l, a0B) => []) ∧ (match s with | (a1Q, a1R, a1l, a0B) => RowL 103 5 f9 a6f a0B a6g) ∧ (match s with | (a1Q, a1R, a1l, a0B) => Inv w0 ps0 H0 H [bx g0 155 [(Value.string a1Q), (vi a1R), (vi a1l.D9), (vi a1l.L6), (vs a6f)], a6g] w) ∧ e s H) ⟨_, (d.fs, d.fn, d.fat, r), p, t, u, rfl, rfl, v, ((q.bring 1).bring 1), y⟩ ?_
 rintro ap aq w next1 ⟨⟨a1Q, a1R, a1l, a0B⟩, H, a6f, a6g, rfl, i, a8N, I, aa⟩ hn1
 dsimp only at i I a8N
 clear i
 obtain ⟨n1, hm1, h⟩ : ∃ n1 : (ByteArray × Int × b8 × (List b5)) → Hp → Prop, (∀ s' H', n1 s' H' → e s' H' ∧ c s' < c (a1Q, a1R, a1l, a0B)) ∧ V6 a1Q a1R a1l a0B H n1 K := ⟨_, fun _ _ h => h, z (a1Q, a1R, a1l, a0B) H (fun s' H' => e s' H' ∧ c s' < c (a1Q, a1R, a1l, a0B)) aa (fun _ _ a b => ⟨a, b⟩)⟩
 unfold b8N
 unfold V6 at h
 refine g9 Tryz.call135 (h g0 a6f a6g a8N) ((I.bring 1).bring 1) ?_
 rintro _ _ _ ar ab _ _ ⟨au, rfl, rfl, h⟩
 refine g9 Tryz.call134 h ab ?_
 rintro _ ac _ av j _ _ ⟨aw, rfl, rfl, h⟩
 refine p7 h (fun _ h => ?_) (fun _ h => ?_)
 ·refine g9 Tryz.call133 (h g0 a6f a6g a8N) ((j.bring 1).bring 1) ?_
  rintro _ _ _ ax ad _ _ ⟨ay, az, ba, ae, af, rfl, rfl, ag, h⟩
  refine g9 Tryz.call133 (h g0 ae af ag) ((ad.bring 1).bring 1) ?_
  rintro _ ah _ bb ai _ _ ⟨bc, f, aj, ak, al, rfl, rfl, am, h⟩
  exact hn1 _ _ _ (hm1 _ _ h).2 ⟨(f.fs, f.fn, f.fat, aj), ah, ak, al, rfl, rfl, am, ((ai.bring 1).bring 1), (hm1 _ _ h).1⟩
 ·exact hR _ ac _ _ ((j.bring 1).bring 1) ⟨(d7.mk a1Q a1R a1l (Sl.mk none 0 0)), a0B, a6f, a6g, rfl, rfl, a8N, h⟩
def X2 (f : b5) (t7 : ByteArray) (t8 : Int) (y9 : b8) (C3 : (List b5)) (H : Hp) (K : b5 → Int → d7 → (List b5) → Hp → Prop) : Prop :=
 S1 (d7.mk t7 t8 y9 (Sl.mk none 0 0)) C3 H (fun a e =>
 (0 : Int) ≤ 1 ∧ (1 : Int) ≤ a.size ∧
 B3 (d7.mk t7 t8 y9 (Sl.mk none 0 0)) C3 e (fun b c d =>
 (((decide ((a.extract 0 (1 : Int).toNat) = ⟨#[38]⟩)) || (decide ((a.extract 0 (1 : Int).toNat) = ⟨#[124]⟩))) = true →
 K (b5.mk 0 ⟨#[]⟩ 0 (b8.mk 0 0)) 20 (s7 b) c d) ∧
 (((decide ((a.extract 0 (1 : Int).toNat) = ⟨#[38]⟩)) || (decide ((a.extract 0 (1 : Int).toNat) = ⟨#[124]⟩))) = false →
 K (b5.mk 4 (a.extract 0 (1 : Int).toNat) 0 (b8.mk 0 0)) 0 (s7 b) c d)))
def X3 (A4 : N4) (B9 : Int) (a : b5) (p8 : ByteArray) (p9 : Int) (o6 : b8) (o7 : (List b5)) (H : Hp) (n2 : (Int × b5 × ByteArray × Int × b8 × (List b5)) → Hp → Prop) (K : b5 → Int → d7 → (List b5) → Hp → Prop) : Prop :=
 (B9 < 6 →
 (0 : Int) ≤ B9 ∧ (B9 : Int) < 6 ∧
 S1 (d7.mk p8 p9 o6 (Sl.mk none 0 0)) o7 H (fun d e =>
 a2s d (([A4.f0, A4.f1, A4.f2, A4.f3, A4.f4, A4.f5] : List ByteArray).getD (B9 : Int).toNat ⟨#[]⟩) e (fun b c =>
 (b = true →
 B3 (d7.mk p8 p9 o6 (Sl.mk none 0 0)) o7 c (fun f g i =>
 B3 (s7 f) g i (fun j k l =>
 K (b5.mk 4 (([A4.f0, A4.f1, A4.f2, A4.f3, A4.f4, A4.f5] : List ByteArray).getD (B9 : Int).toNat ⟨#[]⟩) 0 (b8.mk 0 0)) 0 (s7 j) k l))) ∧
 (b = false →
 n2 ((IntKind.wrap .i64 (B9 + 1)), a, p8, p9, o6, o7) c)))) ∧
 (¬ (B9 < 6) →
 X2 a p8 p9 o6 o7 H K)
def a2b (x0 : d7) (a : (List b5)) (H : Hp) (K : b5 → Int → d7 → (List b5) → Hp → Prop) : Prop :=
 TL ((0, (b5.mk 0 ⟨#[]⟩ 0 (b8.mk 0 0)), x0.fs, x0.fn, x0.fat, a) : Int × b5 × ByteArray × Int × b8 × (List b5)) H fun (s : Int × b5 × ByteArray × Int × b8 × (List b5)) H n2 => X3 (N4.mk ⟨#[61, 61]⟩ ⟨#[33, 61]⟩ ⟨#[60, 61]⟩ ⟨#[62, 61]⟩ ⟨#[38, 38]⟩ ⟨#[124, 124]⟩) s.1 s.2.1 s.2.2.1 s.2.2.2.1 s.2.2.2.2.1 s.2.2.2.2.2 H n2 K
theorem a7w (x0 j) {H K} (h : a2b x0 j H K) : a4p x0 j H K := by
 intro g0 e af ag
 refine Ct.of fun w0 w ps0 H0 R E I hR => c2a ?_
 unfold a2b at h
 unfold c4W
 refine p6 I Tryz.zeroValue103 (cs := [(vi 0), (eS), (vi 0), (vi 0), (vi 0)]) rfl fun k bf ah bg => ?_
 have hj1 : ∀ (m : b5) (t7 : ByteArray) (t8 : Int) (y9 : b8) (C3 : (List b5)) (M5 : Frag) H w (_ : RowL 103 5 f9 e C3 M5) (_ : Inv w0 ps0 H0 H [bx k 103 (f9 m), bx g0 155 [(Value.string t7), (vi t8), (vi y9.D9), (vi y9.L6), (vs e)], M5] w) (_ : X2 m t7 t8 y9 C3 H K), b2u (Value.pointer (some ⟨g0, 0, none⟩)) (Value.pointer (some ⟨k, 0, none⟩)) w R E := by
  intro m t7 t8 y9 C3 M5 H w a2Z I h
  unfold b2u
  intro _
  unfold X2 at h
  refine g9 Tryz.call135 (h g0 e M5 a2Z) ((I.bring 2).bring 2) ?_
  rintro _ _ _ bh ai _ _ ⟨f, rfl, rfl, h⟩
  obtain ⟨aj, ak, h⟩ := h
  refine a7 (b6f f Tryz.underlying9 aj ak) ?_
  refine g9 Tryz.call152 (h g0 e M5 a2Z) ((ai.bring 1).bring 1) ?_
  rintro _ r _ bi t _ _ ⟨u, v, y, z, rfl, rfl, aa, h⟩
  refine a7 (R9 _ _ _ _ _) ?_
  simp only [E5]
  refine a7 (Pu.g fun c => by simp only [m1 c]; with_reducible exact (R9 _ _ _ _ _)) ?_
  refine a7 (P6 _ _) ?_
  refine p7 h (fun _ h => ?_) (fun _ h => ?_)
  ·refine a7 (b1t ) ?_
   refine i6 (t.bring 2) Tryz.sizeOf103 (vs := [(vi 0), (eS), (vi 0), (vi 0), (vi 0)]) (cs' := [(vi 0), (eS), (vi 0), (vi 0), (vi 0)]) rfl rfl (nb rfl) rfl rfl fun bj ab bk => ?_
   refine A5 Tryz.isAgg103 Tryz.sizeOf103 rfl (ab.at1 (o := 0) (vs := [(vi 0), (eS), (vi 0), (vi 0), (vi 0)]) (nb rfl) rfl) ?_
   exact hR _ r _ _ ((ab.drop.bring 1).bring 1) ⟨(b5.mk 0 ⟨#[]⟩ 0 (b8.mk 0 0)), 20, (s7 u), v, y, z, rfl, rfl, aa, h⟩
  ·refine a7 (a4J _ _) ?_
   refine i6 (t.bring 2) Tryz.sizeOf103 (vs := [(vi 4), (Value.string (f.extract 0 (1 : Int).toNat)), (vi 0), (vi 0), (vi 0)]) (cs' := [(vi 4), (Value.string (f.extract 0 (1 : Int).toNat)), (vi 0), (vi 0), (vi 0)]) rfl rfl (nb rfl) rfl rfl fun bl ac bm => ?_
   refine A5 Tryz.isAgg103 Tryz.sizeOf103 rfl (ac.at1 (o := 0) (vs := [(vi 4), (Value.string (f.extract 0 (1 : Int).toNat)), (vi 0), (vi 0), (vi 0)]) (nb rfl) rfl) ?_
   exact hR _ r _ _ ((ac.drop.bring 1).bring 1) ⟨(b5.mk 4 (f.extract 0 (1 : Int).toNat) 0 (b8.mk 0 0)), 0, (s7 u), v, y, z, rfl, rfl, aa, h⟩
 refine z8 fun j1 hx1 => ?_
 refine a7 (a7Z _ _ _ _ _ _) ?_
 obtain ⟨p, i, al, am⟩ := h
 refine G7 (J := fun n l w => ∃ (s : Int × b5 × ByteArray × Int × b8 × (List b5)) (H : Hp) (D7 : Frag) , n = i s ∧ l = (match s with | (B9, d, p8, p9, o6, o7) => [(vi B9)]) ∧ (match s with | (B9, d, p8, p9, o6, o7) => RowL 103 5 f9 e o7 D7) ∧ (match s with | (B9, d, p8, p9, o6, o7) => Inv w0 ps0 H0 H [bx k 103 (f9 d), bx g0 155 [(Value.string p8), (vi p9), (vi o6.D9), (vi o6.L6), (vs e)], D7] w) ∧ p s H) ⟨_, (0, (b5.mk 0 ⟨#[]⟩ 0 (b8.mk 0 0)), x0.fs, x0.fn, x0.fat, j), H, af, rfl, rfl, ag, (((ah.bring 2).bring 2).bring 2), al⟩ ?_
 rintro bn bo w next2 ⟨⟨B9, d, p8, p9, o6, o7⟩, H, D7, rfl, q, Q1, I, an⟩ hn2
 dsimp only at q I Q1
 simp only [List.map_cons, List.map_nil, List.cons.injEq, and_true] at q
 have e8 := q
 simp only [e8]
 obtain ⟨n2, hm2, h⟩ : ∃ n2 : (Int × b5 × ByteArray × Int × b8 × (List b5)) → Hp → Prop, (∀ s' H', n2 s' H' → p s' H' ∧ i s' < i (B9, d, p8, p9, o6, o7)) ∧ X3 (N4.mk ⟨#[61, 61]⟩ ⟨#[33, 61]⟩ ⟨#[60, 61]⟩ ⟨#[62, 61]⟩ ⟨#[38, 38]⟩ ⟨#[124, 124]⟩) B9 d p8 p9 o6 o7 H n2 K := ⟨_, fun _ _ h => h, am (B9, d, p8, p9, o6, o7) H (fun s' H' => p s' H' ∧ i s' < i (B9, d, p8, p9, o6, o7)) an (fun _ _ a b => ⟨a, b⟩)⟩
 unfold b6s
 unfold X3 at h
 refine a7 pLs ?_
 refine m6 h (fun _ h => ?_) (fun _ h => ?_)
 ·obtain ⟨ao, ap, h⟩ := h
  refine a7 (b7v _ _ _ _ _ _ _ _ ao ap) ?_
  refine g9 Tryz.call135 (h g0 e D7 Q1) ((I.bring 2).bring 2) ?_
  rintro _ _ _ bp aq _ _ ⟨bq, rfl, rfl, h⟩
  refine g9 Tryz.call134 h aq ?_
  rintro _ ar _ br ad _ _ ⟨bs, rfl, rfl, h⟩
  refine p7 h (fun _ h => ?_) (fun _ h => ?_)
  ·refine g9 Tryz.call152 (h g0 e D7 Q1) ((ad.bring 1).bring 1) ?_
   rintro _ _ _ bt au _ _ ⟨bu, bv, av, aw, rfl, rfl, ax, h⟩
   refine g9 Tryz.call152 (h g0 av aw ax) ((au.bring 1).bring 1) ?_
   rintro _ ay _ bw az _ _ ⟨ba, bb, bc, bd, rfl, rfl, be, h⟩
   refine a7 (a4J _ _) ?_
   refine i6 (az.bring 2) Tryz.sizeOf103 (vs := [(vi 4), (Value.string (([(N4.mk ⟨#[61, 61]⟩ ⟨#[33, 61]⟩ ⟨#[60, 61]⟩ ⟨#[62, 61]⟩ ⟨#[38, 38]⟩ ⟨#[124, 124]⟩).f0, (N4.mk ⟨#[61, 61]⟩ ⟨#[33, 61]⟩ ⟨#[60, 61]⟩ ⟨#[62, 61]⟩ ⟨#[38, 38]⟩ ⟨#[124, 124]⟩).f1, (N4.mk ⟨#[61, 61]⟩ ⟨#[33, 61]⟩ ⟨#[60, 61]⟩ ⟨#[62, 61]⟩ ⟨#[38, 38]⟩ ⟨#[124, 124]⟩).f2, (N4.mk ⟨#[61, 61]⟩ ⟨#[33, 61]⟩ ⟨#[60, 61]⟩ ⟨#[62, 61]⟩ ⟨#[38, 38]⟩ ⟨#[124, 124]⟩).f3, (N4.mk ⟨#[61, 61]⟩ ⟨#[33, 61]⟩ ⟨#[60, 61]⟩ ⟨#[62, 61]⟩ ⟨#[38, 38]⟩ ⟨#[124, 124]⟩).f4, (N4.mk ⟨#[61, 61]⟩ ⟨#[33, 61]⟩ ⟨#[60, 61]⟩ ⟨#[62, 61]⟩ ⟨#[38, 38]⟩ ⟨#[124, 124]⟩).f5] : List ByteArray).getD (B9 : Int).toNat ⟨#[]⟩)), (vi 0), (vi 0), (vi 0)]) (cs' := [(vi 4), (Value.string (([(N4.mk ⟨#[61, 61]⟩ ⟨#[33, 61]⟩ ⟨#[60, 61]⟩ ⟨#[62, 61]⟩ ⟨#[38, 38]⟩ ⟨#[124, 124]⟩).f0, (N4.mk ⟨#[61, 61]⟩ ⟨#[33, 61]⟩ ⟨#[60, 61]⟩ ⟨#[62, 61]⟩ ⟨#[38, 38]⟩ ⟨#[124, 124]⟩).f1, (N4.mk ⟨#[61, 61]⟩ ⟨#[33, 61]⟩ ⟨#[60, 61]⟩ ⟨#[62, 61]⟩ ⟨#[38, 38]⟩ ⟨#[124, 124]⟩).f2, (N4.mk ⟨#[61, 61]⟩ ⟨#[33, 61]⟩ ⟨#[60, 61]⟩ ⟨#[62, 61]⟩ ⟨#[38, 38]⟩ ⟨#[124, 124]⟩).f3, (N4.mk ⟨#[61, 61]⟩ ⟨#[33, 61]⟩ ⟨#[60, 61]⟩ ⟨#[62, 61]⟩ ⟨#[38, 38]⟩ ⟨#[124, 124]⟩).f4, (N4.mk ⟨#[61, 61]⟩ ⟨#[33, 61]⟩ ⟨#[60, 61]⟩ ⟨#[62, 61]⟩ ⟨#[38, 38]⟩ ⟨#[124, 124]⟩).f5] : List ByteArray).getD (B9 : Int).toNat ⟨#[]⟩)), (vi 0), (vi 0), (vi 0)]) rfl rfl (nb rfl) rfl rfl fun bz ae ca => ?_
   refine A5 Tryz.isAgg103 Tryz.sizeOf103 rfl (ae.at1 (o := 0) (vs := [(vi 4), (Value.string (([(N4.mk ⟨#[61, 61]⟩ ⟨#[33, 61]⟩ ⟨#[60, 61]⟩ ⟨#[62, 61]⟩ ⟨#[38, 38]⟩ ⟨#[124, 124]⟩).f0, (N4.mk ⟨#[61, 61]⟩ ⟨#[33, 61]⟩ ⟨#[60, 61]⟩ ⟨#[62, 61]⟩ ⟨#[38, 38]⟩ ⟨#[124, 124]⟩).f1, (N4.mk ⟨#[61, 61]⟩ ⟨#[33, 61]⟩ ⟨#[60, 61]⟩ ⟨#[62, 61]⟩ ⟨#[38, 38]⟩ ⟨#[124, 124]⟩).f2, (N4.mk ⟨#[61, 61]⟩ ⟨#[33, 61]⟩ ⟨#[60, 61]⟩ ⟨#[62, 61]⟩ ⟨#[38, 38]⟩ ⟨#[124, 124]⟩).f3, (N4.mk ⟨#[61, 61]⟩ ⟨#[33, 61]⟩ ⟨#[60, 61]⟩ ⟨#[62, 61]⟩ ⟨#[38, 38]⟩ ⟨#[124, 124]⟩).f4, (N4.mk ⟨#[61, 61]⟩ ⟨#[33, 61]⟩ ⟨#[60, 61]⟩ ⟨#[62, 61]⟩ ⟨#[38, 38]⟩ ⟨#[124, 124]⟩).f5] : List ByteArray).getD (B9 : Int).toNat ⟨#[]⟩)), (vi 0), (vi 0), (vi 0)]) (nb rfl) rfl) ?_
   exact hR _ ay _ _ ((ae.drop.bring 1).bring 1) ⟨(b5.mk 4 (([(N4.mk ⟨#[61, 61]⟩ ⟨#[33, 61]⟩ ⟨#[60, 61]⟩ ⟨#[62, 61]⟩ ⟨#[38, 38]⟩ ⟨#[124, 124]⟩).f0, (N4.mk ⟨#[61, 61]⟩ ⟨#[33, 61]⟩ ⟨#[60, 61]⟩ ⟨#[62, 61]⟩ ⟨#[38, 38]⟩ ⟨#[124, 124]⟩).f1, (N4.mk ⟨#[61, 61]⟩ ⟨#[33, 61]⟩ ⟨#[60, 61]⟩ ⟨#[62, 61]⟩ ⟨#[38, 38]⟩ ⟨#[124, 124]⟩).f2, (N4.mk ⟨#[61, 61]⟩ ⟨#[33, 61]⟩ ⟨#[60, 61]⟩ ⟨#[62, 61]⟩ ⟨#[38, 38]⟩ ⟨#[124, 124]⟩).f3, (N4.mk ⟨#[61, 61]⟩ ⟨#[33, 61]⟩ ⟨#[60, 61]⟩ ⟨#[62, 61]⟩ ⟨#[38, 38]⟩ ⟨#[124, 124]⟩).f4, (N4.mk ⟨#[61, 61]⟩ ⟨#[33, 61]⟩ ⟨#[60, 61]⟩ ⟨#[62, 61]⟩ ⟨#[38, 38]⟩ ⟨#[124, 124]⟩).f5] : List ByteArray).getD (B9 : Int).toNat ⟨#[]⟩) 0 (b8.mk 0 0)), 0, (s7 ba), bb, bc, bd, rfl, rfl, be, h⟩
  ·refine a7 pAd ?_
   exact hn2 _ _ _ (hm2 _ _ h).2 ⟨((IntKind.wrap .i64 (B9 + 1)), d, p8, p9, o6, o7), ar, D7, rfl, rfl, Q1, (((ad.bring 1).bring 1).bring 2), (hm2 _ _ h).1⟩
 ·exact hx1 _ _ (hj1 d p8 p9 o6 o7 D7 H _ Q1 (((I.bring 2).bring 2).bring 2) h)
def a3L (x0 : f8) (H : Hp) (K : d8 → Hp → Prop) : Prop :=
 K (d8.N2 (S9.mk x0)) H
theorem a8O (x0) {H K} (h : a3L x0 H K) : a5K x0 H K := by
 refine Ct.of fun w0 w ps0 H0 R E I hR => c2w ?_
 unfold a3L at h
 unfold c5s
 refine T7 I (cs := (g8 x0)) rfl fun b c a d => ?_
 refine g6 (lW Tryz.isAgg49 Tryz.sizeOf49 rfl a) (a7 (b4l _ _ _ _ _ _ _ _) (a7 (b2c (S9.mk x0)) ?_))
 exact hR _ H _ _ a.drop ⟨(d8.N2 (S9.mk x0)), rfl, rfl, h⟩
def a2E (x0 : W0) (H : Hp) (K : Bool → Hp → Prop) : Prop :=
 K ((decide (0 ≤ x0.X0.a0o)) && (decide (x0.X0.a0o ≤ 2147483647))) H
theorem a7K (x0) {H K} (h : a2E x0 H K) : a4U x0 H K := by
 refine Ct.of fun w0 w ps0 H0 R E I hR => c2x ?_
 unfold a2E at h
 unfold c5t
 refine T7 I (cs := (y3 x0.X0)) rfl fun c d b e => ?_
 refine a7 a8a (a7 a8E (g6 (l1 Tryz.isAgg3 b rfl) (a7 pGe ?_)))
 refine a7 (Pu.g fun a => by with_reducible exact a8a) ?_
 refine a7 (Pu.g fun a => by simp only [m1 a]; with_reducible exact a8E) ?_
 refine g6 (Ld.g fun a => by simp only [m1 a]; exact (l1 Tryz.isAgg3 b rfl)) ?_
 refine a7 (Pu.g fun a => by simp only [m1 a]; with_reducible exact pLe) ?_
 refine a7 (C1 _ _) ?_
 exact hR _ H _ _ b.drop ⟨((decide (0 ≤ x0.X0.a0o)) && (decide (x0.X0.a0o ≤ 2147483647))), rfl, rfl, h⟩
def a2d (x0 : T0) (H : Hp) (K : Sl → Hp → Prop) : Prop :=
 E0 x0.i8.A6 H (fun d e =>
 B4 x0.i8.m7 e (fun f g =>
 B2 x0.i8.L5 g (fun i j =>
 B2 x0.i8.I0 j (fun k l =>
 ∀ (a : Sl) (b : Hp), Hle l b → SlH b 1 csl a [d, f, i, k] → a.n ≤ a.c →
 D5 a b (fun m o =>
 K m o)))))
theorem a7x (x0) {H K} (h : a2d x0 H K) : a4t x0 H K := by
 refine Ct.of fun w0 w ps0 H0 R E I hR => c2A ?_
 unfold a2d at h
 unfold c5w
 refine T7 I (cs := (l8 x0.i8)) rfl fun ad ae i af => ?_
 refine W4 i fun ag a => ?_
 refine r8 O0 ?_
 refine r8 a2N ?_
 refine r8 O0 ?_
 refine r8 a0K ?_
 refine r8 O0 ?_
 refine r8 a4F ?_
 refine r8 O0 ?_
 refine r8 a4G ?_
 refine C4 (l1 Tryz.isAgg47 a rfl) ?_
 refine C4 (l1 Tryz.isAgg38 a rfl) ?_
 refine C4 (l1 Tryz.isAgg24 a rfl) ?_
 refine C4 (l1 Tryz.isAgg24 a rfl) ?_
 refine g9 Tryz.call211 h a ?_
 rintro _ _ _ ah b _ d ⟨j, rfl, rfl, h⟩
 refine ⟨(d _ a.lt1 (Inv.Z9 (Fi := []) a)), (d _ a.lt1 (Inv.Z9 (Fi := []) a)), (d _ a.lt1 (Inv.Z9 (Fi := []) a)), ?_⟩
 refine g9 Tryz.call207 h b ?_
 rintro _ _ _ ai f _ g ⟨k, rfl, rfl, h⟩
 refine ⟨(g _ b.lt1 (Inv.Z9 (Fi := []) b)), (g _ b.lt1 (Inv.Z9 (Fi := []) b)), ?_⟩
 refine g9 Tryz.call78 h f ?_
 rintro _ _ _ aj l _ m ⟨n, rfl, rfl, h⟩
 refine ⟨(m _ f.lt1 (Inv.Z9 (Fi := []) f)), ?_⟩
 refine g9 Tryz.call78 h l ?_
 rintro _ _ _ ak o _ _ ⟨p, rfl, rfl, h⟩
 refine W5 (e := 128) (c := csl) (xs := [j, k, n, p]) o (b9L _ _ _ _ _ _ _ _ _ _ _ _) rfl rfl b3O b3P (nb rfl) fun q al am r s an => ?_
 obtain ⟨t, u, v, y, z⟩ := Inv.freezeC s r (by decide)
 replace h := h q t v y z
 refine g9 Tryz.call75 h u ?_
 rintro _ aa _ ao ab _ _ ⟨ac, rfl, rfl, h⟩
 exact hR _ aa _ _ ab.drop ⟨ac, rfl, rfl, h⟩
end Go.Proofs.YthklmeihgmcljaaGreatDoor
