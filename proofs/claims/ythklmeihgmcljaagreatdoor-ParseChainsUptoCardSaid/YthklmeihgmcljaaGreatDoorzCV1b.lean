/- Typed formulas of the program's functions, and the theorems that the contracts follow from them; printed by lift.py off the code. -/
import Derived.Test.YthklmeihgmcljaaGreatDoorzCV1
namespace Go.Proofs.YthklmeihgmcljaaGreatDoor
open Go.RowKit
set_option maxRecDepth 100000
set_option maxHeartbeats 2000000
def U9 (s8 : b8) (a : b7) (b : b7) (H : Hp) (K : b7 → b8 → Hp → Prop) : Prop :=
 K a s8 H
def P2 (a3H : Int) (E7 : Int) (m5 : b8) (d : b7) (e : b7) (H : Hp) (n2 : (Int × b8 × b7 × b7) → Hp → Prop) (K : b7 → b8 → Hp → Prop) : Prop :=
 (¬ (E7 = 0) →
 W9 (b8.mk m5.fl (IntKind.wrap .i64 (m5.fat + 1)) m5.fbad m5.fpos) a3H H (fun g f i =>
 L8 f i (fun j k =>
 ∀ (a : Sl) (b : Hp), Hle k b → SlH b 4 c8 a [d, g] → a.n ≤ a.c →
 n2 (j, f, (b7.mk E7 0 ⟨#[]⟩ a), e) b))) ∧
 (E7 = 0 →
 U9 m5 d e H K)
def X2 (x0 : b8) (x1 : Int) (H : Hp) (K : b7 → b8 → Hp → Prop) : Prop :=
 W9 x0 x1 H (fun b a c =>
 L8 a c (fun d e =>
 TL ((d, a, b, (b7.mk 0 0 ⟨#[]⟩ (Sl.mk none 0 0))) : Int × b8 × b7 × b7) e fun (s : Int × b8 × b7 × b7) H n2 => P2 x1 s.1 s.2.1 s.2.2.1 s.2.2.2 H n2 K))
theorem a4O (x0 x1) {H K} (h : X2 x0 x1 H K) : S0 x0 x1 H K := by
 intro g0
 refine Ct.of fun w0 w ps0 H0 R E I hR => c3i ?_
 unfold X2 at h
 unfold F83
 refine m7 I Tryz.zeroValue40 (cs := [(vi 0), (vi 0), (eS), (nS)]) rfl fun m ba z bb => ?_
 refine g8 Tryz.call123 (h g0) (z.bring 1) ?_
 rintro _ bc _ bd aa _ _ ⟨p, ab, rfl, rfl, h⟩
 refine m7 aa Tryz.zeroValue40 (cs := [(vi 0), (vi 0), (eS), (nS)]) rfl fun q be ac bf => ?_
 refine g6 ac Tryz.sizeOf40 (vs := (c8 p)) (cs' := (c8 p)) rfl rfl (nb rfl) rfl rfl fun bg ad bh => ?_
 have hj1 : ∀ (s8 : b8) (g : b7) (r : b7) H w (_ : Inv w0 ps0 H0 H [bx g0 66 (j8 s8), bx q 40 (c8 g), bx m 40 (c8 r)] w) (_ : U9 s8 g r H K), b3V (Value.pointer (some ⟨m, 0, none⟩)) (Value.pointer (some ⟨q, 0, none⟩)) w R E := by
  intro s8 g r H w I h
  unfold b3V
  intro _
  unfold U9 at h
  refine g7 (lW Tryz.isAgg40 Tryz.sizeOf40 rfl (I.bring 1)) ?_
  refine g6 (I.bring 2) Tryz.sizeOf40 (vs := (c8 g)) (cs' := (c8 g)) rfl rfl (nb rfl) rfl rfl fun bi v bj => ?_
  refine u1 Tryz.isAgg40 Tryz.sizeOf40 rfl (v.at1 (o := 0) (vs := (c8 g)) (nb rfl) rfl) ?_
  exact hR _ H _ _ (v.drop.bring 1).drop ⟨g, s8, rfl, rfl, h⟩
 refine u7 fun j1 hx1 => ?_
 refine g8 Tryz.call124 (h g0) (ad.bring 1) ?_
 rintro _ ae _ bk af _ _ ⟨ag, rfl, rfl, h⟩
 obtain ⟨t, i, ah, ai⟩ := h
 refine E8 (J := fun n l w => ∃ (s : Int × b8 × b7 × b7) (H : Hp) , n = i s ∧ l = (match s with | (E7, m5, d, f) => [(vi E7)]) ∧ (match s with | (E7, m5, d, f) => Inv w0 ps0 H0 H [bx g0 66 (j8 m5), bx q 40 (c8 d), bx m 40 (c8 f)] w) ∧ t s H) ⟨_, (ag, ab, p, (b7.mk 0 0 ⟨#[]⟩ (Sl.mk none 0 0))), ae, rfl, rfl, (((af.bring 2).bring 2).bring 2), ah⟩ ?_
 rintro bl bm w next2 ⟨⟨E7, m5, d, f⟩, H, rfl, u, I, aj⟩ hn2
 dsimp only at u I
 simp only [List.map_cons, List.map_nil, List.cons.injEq, and_true] at u
 have e6 := u
 simp only [e6]
 obtain ⟨n2, hm2, h⟩ : ∃ n2 : (Int × b8 × b7 × b7) → Hp → Prop, (∀ s' H', n2 s' H' → t s' H' ∧ i s' < i (E7, m5, d, f)) ∧ P2 x1 E7 m5 d f H n2 K := ⟨_, fun _ _ h => h, ai (E7, m5, d, f) H (fun s' H' => t s' H' ∧ i s' < i (E7, m5, d, f)) aj (fun _ _ a b => ⟨a, b⟩)⟩
 unfold b7K
 unfold P2 at h
 refine a7 pNe ?_
 refine a6J h (fun _ h => ?_) (fun _ h => ?_)
 ·refine a7 (q7 _) (a7 a2L (g7 (l1 Tryz.isAgg3 I rfl) (a7 pAd (a7 (q7 _) ?_))))
  refine a7 a2L ?_
  refine g6 I Tryz.sizeOf3 (vs := [(vi (IntKind.wrap .i64 (m5.fat + 1)))]) (cs' := [(vs m5.fl), (vi (IntKind.wrap .i64 (m5.fat + 1))), (vi m5.fbad), (vi m5.fpos.v7), (vi m5.fpos.C8)]) rfl rfl (nb rfl) rfl rfl fun bn ak bo => ?_
  refine U3 ak fun bp j => ?_
  refine A0 (lW Tryz.isAgg40 Tryz.sizeOf40 rfl (j.bring 1)) ?_
  refine g8 Tryz.call123 (h g0) j ?_
  rintro _ _ _ bq al _ am ⟨an, ao, rfl, rfl, h⟩
  refine ⟨(am _ (j.bring 1).lt1 (Inv.Y1 (Fi := [bx g0 66 [(vs m5.fl), (vi (IntKind.wrap .i64 (m5.fat + 1))), (vi m5.fbad), (vi m5.fpos.v7), (vi m5.fpos.C8)]]) ((j.bring 1).bring 1))), ?_⟩
  refine U4 (e := 40) (c := c8) (xs := [d, an]) al (a9i _ _ _ _ _ _ _ _ _ _ _ _) rfl rfl M6 M7 (nb rfl) fun k br bs ap aq bt => ?_
  refine o8 (a4u _ _ _ _) ?_
  refine g6 (aq.bring 2) Tryz.sizeOf40 (vs := [(vi E7), (vi 0), (eS), (vs k)]) (cs' := [(vi E7), (vi 0), (eS), (vs k)]) rfl rfl (nb rfl) rfl rfl fun bu ar bv => ?_
  refine g8 Tryz.call124 (h g0) (ar.bring 2) ?_
  rintro _ _ _ bw au _ _ ⟨av, rfl, rfl, h⟩
  obtain ⟨y, aw, ax, ay, az⟩ := Inv.freezeC (au.bring 2) ap (by decide)
  replace h := h k y ax ay az
  exact hn2 _ _ _ (hm2 _ _ h).2 ⟨(av, ao, (b7.mk E7 0 ⟨#[]⟩ k), f), y, rfl, rfl, (((aw.bring 2).bring 2).bring 2), (hm2 _ _ h).1⟩
 ·exact hx1 _ _ (hj1 m5 d f H _ (((I.bring 2).bring 2).bring 2) h)
def a2N (x0 : l0) (H : Hp) (K : d7 → Hp → Prop) : Prop :=
 K (d7.K2 (U5.mk x0)) H
theorem a7Z (x0) {H K} (h : a2N x0 H K) : a5a x0 H K := by
 refine Ct.of fun w0 w ps0 H0 R E I hR => c3d ?_
 unfold a2N at h
 unfold F77
 refine Y0 I (cs := (z6 x0)) rfl fun b c a d => ?_
 refine g7 (lW Tryz.isAgg68 Tryz.sizeOf68 rfl a) (a7 (b3A _ _) (a7 (b1p (U5.mk x0)) ?_))
 exact hR _ H _ _ a.drop ⟨(d7.K2 (U5.mk x0)), rfl, rfl, h⟩
def a2O (x0 : g5) (H : Hp) (K : d7 → Hp → Prop) : Prop :=
 K (d7.E9 (R3.mk x0)) H
theorem a8a (x0) {H K} (h : a2O x0 H K) : a5b x0 H K := by
 refine Ct.of fun w0 w ps0 H0 R E I hR => c3f ?_
 unfold a2O at h
 unfold F79
 refine Y0 I (cs := (s7 x0)) rfl fun b c a d => ?_
 refine g7 (lW Tryz.isAgg56 Tryz.sizeOf56 rfl a) (a7 (b3B _ _ _ _ _ _ _ _ _ _ _ _ _ _) (a7 (b1q (R3.mk x0)) ?_))
 exact hR _ H _ _ a.drop ⟨(d7.E9 (R3.mk x0)), rfl, rfl, h⟩
def D5 (c7O : Sl) (b1T : Int) (c7P : Sl) (c7M : Int) (c5C : Int) (H : Hp) (n4 : (Int × Int) → Hp → Prop) (K : Sl → Hp → Prop) : Prop :=
 n4 (b1T, (IntKind.wrap .i64 (c5C + 1))) H
def D6 (b0H : (List d7)) (H : Hp) (K : Sl → Hp → Prop) : Prop :=
 ∀ (a5N : Sl) (a : Hp), Hle H a → SlH a 1 p9 a5N b0H → a5N.n ≤ a5N.c →
 K a5N a
def D7 (c0b : Sl) (c0c : Int) (a2P : (List d7)) (a2x : Int) (H : Hp) (n3 : ((List d7) × Int) → Hp → Prop) (K : Sl → Hp → Prop) : Prop :=
 (a2x < c0c →
 (0 : Int) ≤ a2x ∧ (a2x : Int) < c0b.n ∧ ∃ b : Sl, EltH H c0b a2x 1 [(vs b)] ∧
 ∃ a : List d7, SlH H 1 p9 b a ∧ (a2P.length + a.length) * 17 ≤ 140737488355328 ∧
 n3 ((a2P ++ a), (IntKind.wrap .i64 (a2x + 1))) H) ∧
 (¬ (a2x < c0c) →
 D6 a2P H K)
def D8 (b6E : Sl) (a7Y : Int) (H : Hp) (K : Sl → Hp → Prop) : Prop :=
 Q8 a7Y H (fun a b =>
 TL ((a, 0) : (List d7) × Int) b fun (s : (List d7) × Int) H n3 => D7 b6E (b6E.n : Int) s.1 s.2 H n3 K)
def D9 (c4n : Sl) (b8N : Sl) (b6F : Int) (a5e : Int) (Y6 : Int) (H : Hp) (n4 : (Int × Int) → Hp → Prop) (K : Sl → Hp → Prop) : Prop :=
 (Y6 < b6F →
 (0 : Int) ≤ Y6 ∧ (Y6 : Int) < b8N.n ∧ ∃ a : Sl, EltH H b8N Y6 1 [(vs a)] ∧
 ((IntKind.wrap .i64 (a5e + (a.n : Int))) < 0 →
 False) ∧
 (¬ ((IntKind.wrap .i64 (a5e + (a.n : Int))) < 0) →
 D5 c4n (IntKind.wrap .i64 (a5e + (a.n : Int))) b8N b6F Y6 H n4 K)) ∧
 (¬ (Y6 < b6F) →
 D8 c4n a5e H K)
def L5 (x0 : Sl) (H : Hp) (K : Sl → Hp → Prop) : Prop :=
 TL ((0, 0) : Int × Int) H fun (s : Int × Int) H n4 => D9 x0 x0 (x0.n : Int) s.1 s.2 H n4 K
theorem a1m (x0) {H K} (h : L5 x0 H K) : C0 x0 H K := by
 refine Ct.of fun w0 w ps0 H0 R E I hR => c3b ?_
 unfold L5 at h
 unfold F75
 have hj1 : ∀ (a7Y : Int) H w (_ : Inv w0 ps0 H0 H [] w) (_ : D8 x0 a7Y H K), b3Q (vs x0) (vi a7Y) w R E := by
  intro a7Y H w I h
  unfold b3Q
  intro _
  unfold D8 at h
  refine g8 Tryz.call120 h I ?_
  rintro _ p _ az q _ _ ⟨r, t, u, rfl, rfl, y, h⟩
  have hj2 : ∀ (b0H : (List d7)) (a5N : Sl) (Fs6j2 : Frag) H w (_ : RowL 131 1 p9 a5N b0H Fs6j2) (_ : Inv w0 ps0 H0 H [Fs6j2] w) (_ : D6 b0H H K), b3P (vs a5N) w R E := by
   intro b0H a5N Fs6j2 H w c5D I h
   unfold b3P
   intro _
   unfold D6 at h
   obtain ⟨m, z, aa, ab, ac⟩ := Inv.freezeC I c5D (by decide)
   replace h := h a5N m aa ab ac
   exact hR _ m _ _ z ⟨a5N, rfl, rfl, h⟩
  refine u7 fun j2 hx2 => ?_
  refine a7 (b0G _ _ _) ?_
  obtain ⟨e, c, ad, ae⟩ := h
  refine E8 (J := fun n l w => ∃ (s : (List d7) × Int) (H : Hp) (b0I : Sl) (Fs6l3 : Frag) , n = c s ∧ l = (match s with | (a2P, a2x) => [(vs b0I), (vi a2x)]) ∧ (match s with | (a2P, a2x) => RowL 131 1 p9 b0I a2P Fs6l3) ∧ (match s with | (a2P, a2x) => Inv w0 ps0 H0 H [Fs6l3] w) ∧ e s H) ⟨_, (r, 0), p, t, u, rfl, rfl, y, q, ad⟩ ?_
  rintro ba bb w next3 ⟨⟨a2P, a2x⟩, H, b0I, Fs6l3, rfl, f, b6G, I, af⟩ hn3
  dsimp only at f I b6G
  simp only [List.map_cons, List.map_nil, List.cons.injEq, and_true] at f
  obtain ⟨e6, e27⟩ := f
  simp only [e6, e27]
  obtain ⟨n3, hm3, h⟩ : ∃ n3 : ((List d7) × Int) → Hp → Prop, (∀ s' H', n3 s' H' → e s' H' ∧ c s' < c (a2P, a2x)) ∧ D7 x0 (x0.n : Int) a2P a2x H n3 K := ⟨_, fun _ _ h => h, ae (a2P, a2x) H (fun s' H' => e s' H' ∧ c s' < c (a2P, a2x)) af (fun _ _ a b => ⟨a, b⟩)⟩
  unfold b7F
  unfold D7 at h
  refine a7 pLs ?_
  refine j9 h (fun _ h => ?_) (fun _ h => ?_)
  ·obtain ⟨ag, ah, ai, g, h⟩ := h
   obtain ⟨bc, bd, aj, g⟩ := g
   refine a7 (b2s aj _ _ _ _ ag ah) (g7 (ld1 (v := (vs ai)) Tryz.isAgg128 (I.atH g)) ?_)
   obtain ⟨ak, al, h⟩ := h
   obtain ⟨am, h⟩ := h
   refine a7D (s := b0I) (xs := a2P) I b6G (SlH.src I al M8) am fun an ao be ap aq bf => ?_
   refine a7 pAd ?_
   exact hn3 _ _ _ (hm3 _ _ h).2 ⟨((a2P ++ ak), (IntKind.wrap .i64 (a2x + 1))), H, an, ao, rfl, rfl, ap, aq, (hm3 _ _ h).1⟩
  ·exact hx2 _ _ (hj2 a2P b0I Fs6l3 H _ b6G I h)
 refine u7 fun j1 hx1 => ?_
 refine a7 (b0G _ _ _) ?_
 obtain ⟨i, d, ar, au⟩ := h
 refine E8 (J := fun n l w => ∃ (s : Int × Int) (H : Hp) , n = d s ∧ l = (match s with | (a5e, Y6) => [(vi a5e), (vi Y6)]) ∧ (match s with | (a5e, Y6) => Inv w0 ps0 H0 H [] w) ∧ i s H) ⟨_, (0, 0), H, rfl, rfl, I, ar⟩ ?_
 rintro bg bh w next4 ⟨⟨a5e, Y6⟩, H, rfl, j, I, av⟩ hn4
 dsimp only at j I
 simp only [List.map_cons, List.map_nil, List.cons.injEq, and_true] at j
 obtain ⟨e3, e11⟩ := j
 simp only [e3, e11]
 obtain ⟨n4, hm4, h⟩ : ∃ n4 : (Int × Int) → Hp → Prop, (∀ s' H', n4 s' H' → i s' H' ∧ d s' < d (a5e, Y6)) ∧ D9 x0 x0 (x0.n : Int) a5e Y6 H n4 K := ⟨_, fun _ _ h => h, au (a5e, Y6) H (fun s' H' => i s' H' ∧ d s' < d (a5e, Y6)) av (fun _ _ a b => ⟨a, b⟩)⟩
 unfold b7G
 unfold D9 at h
 refine a7 pLs ?_
 refine j9 h (fun _ h => ?_) (fun _ h => ?_)
 ·have hj5 : ∀ (b1T : Int) H w (_ : Inv w0 ps0 H0 H [] w) (_ : D5 x0 b1T x0 (x0.n : Int) Y6 H n4 K), b3R (vs x0) (vi b1T) (vs x0) (vi (x0.n : Int)) (vi Y6) w next4 R E := by
   intro b1T H w I h
   unfold b3R
   intro _
   unfold D5 at h
   refine a7 pAd ?_
   exact hn4 _ _ _ (hm4 _ _ h).2 ⟨(b1T, (IntKind.wrap .i64 (Y6 + 1))), H, rfl, rfl, I, (hm4 _ _ h).1⟩
  refine u7 fun j5 hx5 => ?_
  obtain ⟨aw, ax, o, k, h⟩ := h
  obtain ⟨bi, bj, ay, k⟩ := k
  refine a7 (b2s ay _ _ _ _ aw ax) (g7 (ld1 (v := (vs o)) Tryz.isAgg128 (I.atH k)) (a7 (a6v _ _ _) (a7 pAd (a7 pLs ?_))))
  refine j9 h (fun _ h => ?_) (fun _ h => ?_)
  ·refine a7 (b7w _) ?_
   exact h.elim
  ·exact hx5 _ _ (hj5 (IntKind.wrap .i64 (a5e + (o.n : Int))) H _ I h)
 ·exact hx1 _ _ (hj1 a5e H _ I h)
def a3J (x0 : d7) (H : Hp) (K : ByteArray → Bool → Hp → Prop) : Prop :=
 (x0.a3P = true →
 K x0.W5.V1.A7 true H) ∧
 (x0.a3P = false →
 (x0.a3Q = true →
 K x0.p8.i7.A7 ((decide (x0.p8.i7.f7 = 1)) || (decide (x0.p8.i7.f7 = 2))) H) ∧
 (x0.a3Q = false →
 (x0.a3O = true →
 K x0.B9.s6.A7 ((decide (x0.B9.s6.f7 = 2)) || (decide (x0.B9.s6.f7 = 4))) H) ∧
 (x0.a3O = false →
 K ⟨#[]⟩ false H)))
theorem a8O (x0) {H K} (h : a3J x0 H K) : a0A x0 H K := by
 refine Ct.of fun w0 w ps0 H0 R E I hR => c1c ?_
 unfold a3J at h
 unfold c3P
 refine a7 (b2W x0) (a7 (j7 _ _ (vB x0.a3P) rfl) (a7 (j7 _ _ _ rfl) ?_))
 refine m8 h (fun _ h => ?_) (fun _ h => ?_)
 ·refine m7 I Tryz.zeroValue175 (cs := [(eS), (vi 0)]) rfl fun n o e q => ?_
  refine g6 e Tryz.sizeOf175 (vs := [(Value.string x0.W5.V1.A7), (vi x0.W5.V1.a3u)]) (cs' := [(Value.string x0.W5.V1.A7), (vi x0.W5.V1.a3u)]) rfl rfl (nb rfl) rfl rfl fun r d s => ?_
  refine a7 a7u (a7 b6s (g7 (l1 Tryz.isAgg9 d rfl) ?_))
  exact hR _ H _ _ d.drop ⟨x0.W5.V1.A7, true, rfl, rfl, h⟩
 ·refine a7 (b2X x0) (a7 (j7 _ _ (vB x0.a3Q) rfl) (a7 (j7 _ _ _ rfl) ?_))
  refine m8 h (fun _ h => ?_) (fun _ h => ?_)
  ·refine m7 I Tryz.zeroValue177 (cs := [(vi 0), (eS), (nS), (nS), (nS), (nS)]) rfl fun f t i u => ?_
   refine g6 i Tryz.sizeOf177 (vs := [(vi x0.p8.i7.f7), (Value.string x0.p8.i7.A7), (vs x0.p8.i7.l8), (vs x0.p8.i7.z7), (vs x0.p8.i7.M3), (vs x0.p8.i7.L6)]) (cs' := [(vi x0.p8.i7.f7), (Value.string x0.p8.i7.A7), (vs x0.p8.i7.l8), (vs x0.p8.i7.z7), (vs x0.p8.i7.M3), (vs x0.p8.i7.L6)]) rfl rfl (nb rfl) rfl rfl fun v j y => ?_
   refine U3 j fun z b => ?_
   refine o8 M0 ?_
   refine o8 a4Z ?_
   refine o8 M0 ?_
   refine o8 a0o ?_
   refine A0 (l1 Tryz.isAgg9 b rfl) ?_
   refine A0 (l1 Tryz.isAgg3 b rfl) ?_
   refine o8 pEq ?_
   refine o8 (Pu.g fun a => by with_reducible exact M0) ?_
   refine o8 (Pu.g fun a => by simp only [m6 a]; with_reducible exact a0o) ?_
   refine c2o (p := (Value.pointer (some ⟨f, 0, none⟩))) rfl (Ld.g fun a => by simp only [m6 a]; exact (l1 Tryz.isAgg3 b rfl)) ?_
   refine o8 (Pu.g fun a => by simp only [m6 a]; with_reducible exact pEq) ?_
   refine o8 (L0 _ _) ?_
   exact hR _ H _ _ b.drop ⟨x0.p8.i7.A7, ((decide (x0.p8.i7.f7 = 1)) || (decide (x0.p8.i7.f7 = 2))), rfl, rfl, h⟩
  ·refine a7 (b2Y x0) (a7 (j7 _ _ (vB x0.a3O) rfl) (a7 (j7 _ _ _ rfl) ?_))
   refine m8 h (fun _ h => ?_) (fun _ h => ?_)
   ·refine m7 I Tryz.zeroValue141 (cs := [(vi 0), (vi 0), (eS), (nS)]) rfl fun k aa l ab => ?_
    refine g6 l Tryz.sizeOf141 (vs := [(vi x0.B9.s6.f7), (vi x0.B9.s6.N6), (Value.string x0.B9.s6.A7), (vs x0.B9.s6.E4)]) (cs' := [(vi x0.B9.s6.f7), (vi x0.B9.s6.N6), (Value.string x0.B9.s6.A7), (vs x0.B9.s6.E4)]) rfl rfl (nb rfl) rfl rfl fun ac m ad => ?_
    refine U3 m fun ae c => ?_
    refine o8 X8 ?_
    refine o8 b0C ?_
    refine o8 X8 ?_
    refine o8 a2f ?_
    refine A0 (l1 Tryz.isAgg9 c rfl) ?_
    refine A0 (l1 Tryz.isAgg3 c rfl) ?_
    refine o8 pEq ?_
    refine o8 (Pu.g fun a => by with_reducible exact X8) ?_
    refine o8 (Pu.g fun a => by simp only [m6 a]; with_reducible exact a2f) ?_
    refine c2o (p := (Value.pointer (some ⟨k, 0, none⟩))) rfl (Ld.g fun a => by simp only [m6 a]; exact (l1 Tryz.isAgg3 c rfl)) ?_
    refine o8 (Pu.g fun a => by simp only [m6 a]; with_reducible exact pEq) ?_
    refine o8 (L0 _ _) ?_
    exact hR _ H _ _ c.drop ⟨x0.B9.s6.A7, ((decide (x0.B9.s6.f7 = 2)) || (decide (x0.B9.s6.f7 = 4))), rfl, rfl, h⟩
   ·exact hR _ H _ _ I ⟨⟨#[]⟩, false, rfl, rfl, h⟩
def a4i (x0 : ByteArray) (H : Hp) (K : Bool → Hp → Prop) : Prop :=
 W2 x0 H (fun a b =>
 K (decide (32 < a)) b)
theorem a9I (x0) {H K} (h : a4i x0 H K) : a1b x0 H K := by
 refine Ct.of fun w0 w ps0 H0 R E I hR => c1k ?_
 unfold a4i at h
 unfold c3X
 refine g8 Tryz.call162 h I ?_
 rintro _ a _ d b _ _ ⟨c, rfl, rfl, h⟩
 refine a7 pGt ?_
 exact hR _ a _ _ b ⟨(decide (32 < c)), rfl, rfl, h⟩
def a2Q (H : Hp) (K : Bool → Hp → Prop) : Prop :=
 K true H
def N8 (b : ByteArray) (a : Nat) (H : Hp) (n2 : Nat → Hp → Prop) (K : Bool → Hp → Prop) : Prop :=
 (a < b.size →
 a1K ((Utf8.decode b a).1 : Int) H (fun c d =>
 TG ((!(!c) && (decide (((a : Nat) : Int) = 0))) = true) (P0 ((Utf8.decode b a).1 : Int) d) 0 d (fun (e : Int) (f : Hp) =>
 (((!c) || ((decide (((a : Nat) : Int) = 0)) && (!decide (e = 3)))) = true →
 K false f) ∧
 (((!c) || ((decide (((a : Nat) : Int) = 0)) && (!decide (e = 3)))) = false →
 n2 (a + (Utf8.decode b a).2) f)))) ∧
 (¬ (a < b.size) →
 a2Q H K)
def a4j (x0 : ByteArray) (H : Hp) (K : Bool → Hp → Prop) : Prop :=
 TG ((decide (x0 = ⟨#[]⟩)) = false) (a2Y x0 H) false H (fun (a : Bool) (c : Hp) =>
 TG (((decide (x0 = ⟨#[]⟩)) || (!a)) = false) (a1b x0 c) false c (fun (b : Bool) (d : Hp) =>
 TG ((((decide (x0 = ⟨#[]⟩)) || (!a)) || b) = false) (Y9 x0 d) false d (fun (e : Bool) (f : Hp) =>
 (((((decide (x0 = ⟨#[]⟩)) || (!a)) || b) || e) = true →
 K false f) ∧
 (((((decide (x0 = ⟨#[]⟩)) || (!a)) || b) || e) = false →
 TL (0 : Nat) f fun (s : Nat) H n2 => N8 x0 s H n2 K))))
theorem a9J (x0) {H K} (h : a4j x0 H K) : a2w x0 H K := by
 refine Ct.of fun w0 w ps0 H0 R E I hR => c1d ?_
 unfold a4j at h
 unfold c3Q
 refine a7 (R5 _ _ _ _ _) ?_
 simp only [C9]
 refine O5 (D := fun am z => ∃ (d : Bool) (q : Hp) , am = (gv (decide (x0 = ⟨#[]⟩)) false (vB d)) ∧ (Inv w0 ps0 H0 q [] z) ∧ (∀ i, i < w.heap.size → ¬ inF [] i → z.heap[i]? = w.heap[i]?) ∧ Hle H q ∧ (TG (((decide (x0 = ⟨#[]⟩)) || (!d)) = false) (a1b x0 q) false q (fun (m : Bool) (o : Hp) =>
 TG ((((decide (x0 = ⟨#[]⟩)) || (!d)) || m) = false) (Y9 x0 o) false o (fun (p : Bool) (f : Hp) =>
 (((((decide (x0 = ⟨#[]⟩)) || (!d)) || m) || p) = true →
 K false f) ∧
 (((((decide (x0 = ⟨#[]⟩)) || (!d)) || m) || p) = false →
 TL (0 : Nat) f fun (s : Nat) H n2 => N8 x0 s H n2 K))))) (fun t => ?_) (fun t => ?_) ?_
 ·replace h := h.1 t
  have c := t
  simp only [m6 c]
  refine g8 Tryz.call160 h I ?_
  rintro _ q _ z ad an ao ⟨d, rfl, rfl, h⟩
  exact ⟨d, q, by rfl, ad, ao, an, h⟩
 ·exact ⟨false, H, by rw [X9 t], I, fun _ _ _ => rfl, Hle.refl _, h.2 t⟩
 ·clear h
  rintro am z ⟨d, q, rfl, ad, ao, an, h⟩
  refine a7 (Pu.g fun c => by simp only [m6 c]; with_reducible exact (T8 _)) ?_
  refine a7 (L0 _ _) ?_
  simp only [C9]
  refine O5 (D := fun ap aa => ∃ (m : Bool) (o : Hp) , ap = (gv ((decide (x0 = ⟨#[]⟩)) || (!d)) false (vB m)) ∧ (Inv w0 ps0 H0 o [] aa) ∧ (∀ i, i < z.heap.size → ¬ inF [] i → aa.heap[i]? = z.heap[i]?) ∧ Hle q o ∧ (TG ((((decide (x0 = ⟨#[]⟩)) || (!d)) || m) = false) (Y9 x0 o) false o (fun (p : Bool) (f : Hp) =>
 (((((decide (x0 = ⟨#[]⟩)) || (!d)) || m) || p) = true →
 K false f) ∧
 (((((decide (x0 = ⟨#[]⟩)) || (!d)) || m) || p) = false →
 TL (0 : Nat) f fun (s : Nat) H n2 => N8 x0 s H n2 K)))) (fun u => ?_) (fun u => ?_) ?_
  ·replace h := h.1 u
   have c := u
   simp only [m6 c]
   refine g8 Tryz.call156 h ad ?_
   rintro _ o _ aa ae aq ar ⟨m, rfl, rfl, h⟩
   exact ⟨m, o, by rfl, ae, ar, aq, h⟩
  ·exact ⟨false, q, by rw [X9 u], ad, fun _ _ _ => rfl, Hle.refl _, h.2 u⟩
  ·clear h
   rintro ap aa ⟨m, o, rfl, ae, ar, aq, h⟩
   refine a7 (L0 _ _) ?_
   simp only [C9]
   refine O5 (D := fun au af => ∃ (p : Bool) (f : Hp) , au = (gv (((decide (x0 = ⟨#[]⟩)) || (!d)) || m) false (vB p)) ∧ (Inv w0 ps0 H0 f [] af) ∧ (∀ i, i < aa.heap.size → ¬ inF [] i → af.heap[i]? = aa.heap[i]?) ∧ Hle o f ∧ ((((((decide (x0 = ⟨#[]⟩)) || (!d)) || m) || p) = true →
 K false f) ∧
 (((((decide (x0 = ⟨#[]⟩)) || (!d)) || m) || p) = false →
 TL (0 : Nat) f fun (s : Nat) H n2 => N8 x0 s H n2 K))) (fun v => ?_) (fun v => ?_) ?_
   ·replace h := h.1 v
    have c := v
    simp only [m6 c]
    refine g8 Tryz.call155 h ae ?_
    rintro _ f _ af ag av aw ⟨p, rfl, rfl, h⟩
    exact ⟨p, f, by rfl, ag, aw, av, h⟩
   ·exact ⟨false, o, by rw [X9 v], ae, fun _ _ _ => rfl, Hle.refl _, h.2 v⟩
   ·clear h
    rintro au af ⟨p, f, rfl, ag, aw, av, h⟩
    refine a7 (L0 _ _) ?_
    refine m8 h (fun _ h => ?_) (fun _ h => ?_)
    ·exact hR _ f _ _ ag ⟨false, rfl, rfl, h⟩
    ·have hj1 : ∀ H w (_ : Inv w0 ps0 H0 H [] w) (_ : a2Q H K), b1G w R E := by
      intro H w I h
      unfold b1G
      intro _
      unfold a2Q at h
      exact hR _ H _ _ I ⟨true, rfl, rfl, h⟩
     refine u7 fun j1 hx1 => ?_
     refine a9g Tryz.underlying9 x0 ag fun ax bk be bl => ?_
     obtain ⟨aj, ac, bf, bg⟩ := h
     refine E8 (J := fun n l w => ∃ (s : Nat) (H : Hp) , n = ac s ∧ l = [] ∧ Inv w0 ps0 H0 H [itf ax x0 s] w ∧ aj s H) ⟨_, 0, f, rfl, rfl, be, bf⟩ ?_
     rintro bm bn w next2 ⟨j, H, rfl, bh, I, bi⟩ hn2
     clear bh
     obtain ⟨n2, hm2, h⟩ : ∃ n2 : Nat → Hp → Prop, (∀ s' H', n2 s' H' → aj s' H' ∧ ac s' < ac j) ∧ N8 x0 j H n2 K := ⟨_, fun _ _ h => h, bg j H (fun s' H' => aj s' H' ∧ ac s' < ac j) bi (fun _ _ a b => ⟨a, b⟩)⟩
     unfold b5B
     unfold N8 at h
     refine b0w I (fun ak bo bj bp => ?_) (fun ak => ?_)
     ·replace h := h.1 ak
      refine a7 (j7 _ _ (vB true) rfl) ?_
      refine a0G (fun e => ?_) (fun e => by cases e)
      refine a7 (j7 _ _ (vi ((j : Nat) : Int)) rfl) (a7 (j7 _ _ (Value.int .i32 ((Utf8.decode x0 j).1 : Int)) rfl) ?_)
      refine g8 Tryz.call154 h bj ?_
      rintro _ ay _ az ba _ _ ⟨al, rfl, rfl, h⟩
      refine a7 (T8 _) ?_
      simp only [C9]
      refine a7 (Pu.g fun c => by simp only [m6 c]; with_reducible exact pEq) ?_
      simp only [b0t, b7m]
      refine b9W (a2b _ _ _) ?_
      refine O5 (D := fun bb ah => ∃ (ab : Int) (r : Hp) , bb = (gv (!(!al) && (decide (((j : Nat) : Int) = 0))) true (vi ab)) ∧ (Inv w0 ps0 H0 r [itf ax x0 (j + (Utf8.decode x0 j).2)] ah) ∧ (∀ i, i < az.heap.size → ¬ inF [] i → ah.heap[i]? = az.heap[i]?) ∧ Hle ay r ∧ ((((!al) || ((decide (((j : Nat) : Int) = 0)) && (!decide (ab = 3)))) = true →
 K false r) ∧
 (((!al) || ((decide (((j : Nat) : Int) = 0)) && (!decide (ab = 3)))) = false →
 n2 (j + (Utf8.decode x0 j).2) r))) (fun y => ?_) (fun y => ?_) ?_
      ·replace h := h.1 y
       obtain ⟨c, k⟩ := a4s y
       simp only [m6 y]
       refine g8 Tryz.call132 h ba ?_
       rintro _ r _ ah ai bc bd ⟨ab, rfl, rfl, h⟩
       exact ⟨ab, r, by rfl, ai, bd, bc, h⟩
      ·exact ⟨0, ay, by rw [X9 y], ba, fun _ _ _ => rfl, Hle.refl _, h.2 y⟩
      ·clear h
       rintro bb ah ⟨ab, r, rfl, ai, bd, bc, h⟩
       refine a7 (Pu.e (a2b _ _ _) (Pu.g fun hb => by obtain ⟨c, k⟩ := a4s hb; simp only [m6 hb]; with_reducible exact pNe)) ?_
       refine a7 (Pu.g fun c => by simp only [m6 c, b0s c]; with_reducible exact (I0 _ _)) ?_
       refine a7 (L0 _ _) ?_
       refine m8 h (fun _ h => ?_) (fun _ h => ?_)
       ·exact hR _ r _ _ ai.drop ⟨false, rfl, rfl, h⟩
       ·exact hn2 _ _ _ (hm2 _ _ h).2 ⟨(j + (Utf8.decode x0 j).2), r, rfl, rfl, ai, (hm2 _ _ h).1⟩
     ·replace h := h.2 ak
      refine a7 (j7 _ _ (vB false) rfl) ?_
      refine a0G (fun e => by cases e) (fun e => ?_)
      exact hx1 _ _ (hj1 H _ I.drop h)
def a3p (x0 : l7) (H : Hp) (K : Int → Hp → Prop) : Prop :=
 a4h x0 H (fun a b =>
 K a.fe b)
theorem a8x (x0) {H K} (h : a3p x0 H K) : a3k x0 H K := by
 refine Ct.of fun w0 w ps0 H0 R E I hR => c2F ?_
 unfold a3p at h
 unfold F12
 refine Y0 I (cs := (p7 x0)) rfl fun e f a g => ?_
 refine g7 (lW Tryz.isAgg26 Tryz.sizeOf26 rfl a) ?_
 refine g8 Tryz.call32 h a ?_
 rintro _ c _ i b _ _ ⟨d, j, rfl, rfl, h⟩
 refine a7 (q7 _) (a7 a3T (g7 (l1 Tryz.isAgg29 b rfl) ?_))
 exact hR _ c _ _ b.drop.drop ⟨d.fe, rfl, rfl, h⟩
def a3q (x0 : ByteArray) (H : Hp) (K : b7 → b9 → Int → Hp → Prop) : Prop :=
 E6 x0 H (fun a b c d =>
 K a b c d)
theorem a8y (x0) {H K} (h : a3q x0 H K) : a3l x0 H K := by
 refine Ct.of fun w0 w ps0 H0 R E I hR => c2G ?_
 unfold a3q at h
 unfold F13
 refine m7 I Tryz.zeroValue40 (cs := [(vi 0), (vi 0), (eS), (nS)]) rfl fun k l e m => ?_
 refine m7 e Tryz.zeroValue28 (cs := [(vi 0), (vi 0)]) rfl fun n p f q => ?_
 refine g8 Tryz.call33 h f ?_
 rintro _ g _ r i _ _ ⟨a, b, d, rfl, rfl, h⟩
 refine a7 (j7 _ _ _ rfl) (a7 (j7 _ _ _ rfl) (a7 (j7 _ _ (vi d) rfl) ?_))
 refine g6 (i.bring 1) Tryz.sizeOf40 (vs := (c8 a)) (cs' := (c8 a)) rfl rfl (nb rfl) rfl rfl fun s j t => ?_
 refine g6 (j.bring 1) Tryz.sizeOf28 (vs := (d9 b)) (cs' := (d9 b)) rfl rfl (nb rfl) rfl rfl fun u c v => ?_
 refine u1 Tryz.isAgg40 Tryz.sizeOf40 rfl ((c.bring 1).at1 (o := 0) (vs := (c8 a)) (nb rfl) rfl) ?_
 refine u1 Tryz.isAgg28 Tryz.sizeOf28 rfl (c.at1 (o := 0) (vs := (d9 b)) (nb rfl) rfl) ?_
 exact hR _ g _ _ c.drop.drop ⟨a, b, d, rfl, rfl, h⟩
def a0T (x0 : a8) (H : Hp) (K : b5 → Hp → Prop) : Prop :=
 (0 : Int) ≤ x0.fn ∧ (x0.fn : Int) < x0.fl.n ∧ ∃ a : b5, EltH H x0.fl x0.fn 5 (d8 a) ∧
 K a H
theorem a6f (x0) {H K} (h : a0T x0 H K) : u9 x0 H K := by
 intro g0
 refine Ct.of fun w0 w ps0 H0 R E I hR => c2R ?_
 unfold a0T at h
 unfold F51
 refine m7 I Tryz.zeroValue103 (cs := [(vi 0), (eS), (vi 0), (vi 0), (vi 0)]) rfl fun j k e l => ?_
 refine U3 e fun m b => ?_
 refine o8 (q7 _) ?_
 refine o8 b4X ?_
 refine o8 (q7 _) ?_
 refine o8 a2o ?_
 refine A0 (l1 Tryz.isAgg61 (b.bring 1) rfl) ?_
 refine A0 (l1 Tryz.isAgg3 (b.bring 1) rfl) ?_
 obtain ⟨f, g, a, c, h⟩ := h
 obtain ⟨n, p, i, c⟩ := c
 refine o8 (b3r i _ _ _ _ f g) ?_
 refine A0 (ldA (vs := (d8 a)) Tryz.isAgg103 Tryz.sizeOf103 rfl (b.atH c)) ?_
 refine g6 b Tryz.sizeOf103 (vs := (d8 a)) (cs' := (d8 a)) rfl rfl (nb rfl) rfl rfl fun q d r => ?_
 refine u1 Tryz.isAgg103 Tryz.sizeOf103 rfl (d.at1 (o := 0) (vs := (d8 a)) (nb rfl) rfl) ?_
 exact hR _ H _ _ d.drop ⟨a, rfl, rfl, h⟩
def S8 [PanQ] (S9 : (List g5)) (s8 : a8) (H : Hp) (K : Sl → a8 → Hp → Prop) : Prop :=
 ∀ (C6 : Sl) (a : Hp), Hle H a → SlH a 6 s7 C6 S9 → C6.n ≤ C6.c →
 K C6 s8 a
def T0 [PanQ] (a3H : Int) (u0 : (List g5)) (m5 : a8) (H : Hp) (n2 : ((List g5) × a8) → Hp → Prop) (K : Sl → a8 → Hp → Prop) : Prop :=
 r8 m5 ⟨#[125]⟩ H (fun b a c =>
 ((!b) = true →
 L9 a c (fun e f =>
 A9 a (IntKind.wrap .i64 (a3H + 1)) e f (fun g =>
 R8 a (IntKind.wrap .i64 (a3H + 1)) g (fun d i j =>
 (u0.length + ([d] : List g5).length) * 121 ≤ 140737488355328 ∧
 n2 ((u0 ++ [d]), i) j)))) ∧
 ((!b) = false →
 S8 u0 a c K))
def a0D [PanQ] (x0 : a8) (x1 : Int) (H : Hp) (K : Sl → a8 → Hp → Prop) : Prop :=
 A4 x0 ⟨#[123]⟩ H (fun a b =>
 TL (([], a) : (List g5) × a8) b fun (s : (List g5) × a8) H n2 => T0 x1 s.1 s.2 H n2 K)
theorem a5Z [PanQ] (x0 : a8) (x1 : Int) {H : Hp} {K : Sl → a8 → Hp → Prop} (h : a0D x0 x1 H K) : R0 x0 x1 H K := by
 intro g0
 refine Ct.ofE fun w0 w ps0 H0 R E I hR hE => c0J ?_
 unfold a0D at h
 unfold c3w
 refine u6 hE Tryz.call103 (h g0) I ?_
 rintro _ o _ ao p _ _ ⟨q, rfl, rfl, h⟩
 have hj1 : ∀ (S9 : (List g5)) (s8 : a8) (C6 : Sl) (Fs5j1 : Frag) H w (_ : RowL 56 6 s7 C6 S9 Fs5j1) (_ : Inv w0 ps0 H0 H [bx g0 101 (b6 s8), Fs5j1] w) (_ : S8 S9 s8 H K), b1t (vs C6) w R E := by
  intro S9 s8 C6 Fs5j1 H w a6x I h
  unfold b1t
  intro _
  unfold S8 at h
  obtain ⟨i, r, t, u, v⟩ := Inv.freezeC (I.bring 1) a6x (by decide)
  replace h := h C6 i t u v
  exact hR _ i _ _ r ⟨C6, s8, rfl, rfl, h⟩
 refine u7 fun j1 hx1 => ?_
 obtain ⟨f, d, y, z⟩ := h
 refine E8 (J := fun n l w => ∃ (s : (List g5) × a8) (H : Hp) (T1 : Sl) (Fs5l2 : Frag) , n = d s ∧ l = (match s with | (u0, m5) => [(vs T1)]) ∧ (match s with | (u0, m5) => RowL 56 6 s7 T1 u0 Fs5l2) ∧ (match s with | (u0, m5) => Inv w0 ps0 H0 H [bx g0 101 (b6 m5), Fs5l2] w) ∧ f s H) ⟨_, ([], q), o, (Sl.mk none 0 0), [], rfl, rfl, (RowL.nil a4v a4w), (p.nil.bring 1), y⟩ ?_
 rintro ap aq w next2 ⟨⟨u0, m5⟩, H, T1, Fs5l2, rfl, g, a1j, I, aa⟩ hn2
 dsimp only at g I a1j
 simp only [List.map_cons, List.map_nil, List.cons.injEq, and_true] at g
 have e5 := g
 simp only [e5]
 obtain ⟨n2, hm2, h⟩ : ∃ n2 : ((List g5) × a8) → Hp → Prop, (∀ s' H', n2 s' H' → f s' H' ∧ d s' < d (u0, m5)) ∧ T0 x1 u0 m5 H n2 K := ⟨_, fun _ _ h => h, z (u0, m5) H (fun s' H' => f s' H' ∧ d s' < d (u0, m5)) aa (fun _ _ a b => ⟨a, b⟩)⟩
 unfold b5u
 unfold T0 at h
 refine g8 Tryz.call105 (h g0) I ?_
 rintro _ ab _ ar j _ _ ⟨au, ac, rfl, rfl, h⟩
 refine a7 (T8 _) ?_
 refine m8 h (fun _ h => ?_) (fun _ h => ?_)
 ·refine a7 pAd ?_
  refine g8 Tryz.call56 (h g0) j ?_
  rintro _ _ _ av ad _ _ ⟨aw, rfl, rfl, h⟩
  refine u6 hE Tryz.call55 (h g0) ad ?_
  rintro _ _ _ ax ae _ _ ⟨rfl, rfl, h⟩
  refine a7 pAd ?_
  refine u6 hE Tryz.call57 (h g0) ae ?_
  rintro _ af _ ay ag _ _ ⟨k, ah, rfl, rfl, h⟩
  refine U4 (e := 56) (c := s7) (xs := [k]) ag (b5p _ _ _ _ _ _ _ _ _ _ _ _ _ _) rfl rfl a4v a4w (nb rfl) fun az ba bb ai m bc => ?_
  obtain ⟨aj, h⟩ := h
  refine b7p (s := T1) (xs := u0) (m.bring 2) a1j (ai.srcO ((m.bring 2).bring 1)) aj fun ak al bd am an be => ?_
  exact hn2 _ _ _ (hm2 _ _ h).2 ⟨((u0 ++ [k]), ah), af, ak, al, rfl, rfl, am, ((an.bring 1).drop.bring 1), (hm2 _ _ h).1⟩
 ·exact hx1 _ _ (hj1 u0 ac T1 Fs5l2 ab _ a1j ((j.bring 1).bring 1) h)
def K7 [PanQ] (s8 : a8) (a : l0) (d : l0) (H : Hp) (K : l0 → a8 → Hp → Prop) : Prop :=
 A4 s8 ⟨#[59]⟩ H (fun b c =>
 K a b c)
def O7 [PanQ] (a3v : a8) (a : l0) (b : l0) (H : Hp) (K : l0 → a8 → Hp → Prop) : Prop :=
 M9 a3v H (fun c d e =>
 A4 d ⟨#[93]⟩ e (fun f g =>
 K7 f (l0.mk a.A7 c.N6) b g K))
def a3f [PanQ] (x0 : a8) (H : Hp) (K : l0 → a8 → Hp → Prop) : Prop :=
 i6 x0 ⟨#[97, 114, 114, 97, 121]⟩ H (fun d i =>
 a0L (a8.mk x0.fl (IntKind.wrap .i64 (x0.fn + 1))) 1 i (fun c e f =>
 (d = true →
 A4 e ⟨#[91]⟩ f (fun b j =>
 u9 b j (fun a g =>
 ((((!decide (a.f7 = 2)) || (decide (a.N6 < 1))) || (decide (2147483647 < a.N6))) = true →
 C3 b g (fun k =>
 O7 b (l0.mk c.A8 0) (l0.mk ⟨#[]⟩ 0) k K)) ∧
 ((((!decide (a.f7 = 2)) || (decide (a.N6 < 1))) || (decide (2147483647 < a.N6))) = false →
 O7 b (l0.mk c.A8 0) (l0.mk ⟨#[]⟩ 0) g K)))) ∧
 (d = false →
 K7 e (l0.mk c.A8 0) (l0.mk ⟨#[]⟩ 0) f K)))
theorem a6g [PanQ] (x0 : a8) {H : Hp} {K : l0 → a8 → Hp → Prop} (h : a3f x0 H K) : W0 x0 H K := by
 intro g0
 refine Ct.ofE fun w0 w ps0 H0 R E I hR hE => c2U ?_
 unfold a3f at h
 unfold F54
 refine m7 I Tryz.zeroValue68 (cs := [(eS), (vi 0)]) rfl fun e al q am => ?_
 refine g8 Tryz.call53 (h g0) (q.bring 1) ?_
 rintro _ _ _ an j _ _ ⟨ao, rfl, rfl, h⟩
 refine a7 (q7 _) (a7 a2o (g7 (l1 Tryz.isAgg3 j rfl) (a7 pAd (a7 (q7 _) ?_))))
 refine a7 a2o ?_
 refine g6 j Tryz.sizeOf3 (vs := [(vi (IntKind.wrap .i64 (x0.fn + 1)))]) (cs' := [(vs x0.fl), (vi (IntKind.wrap .i64 (x0.fn + 1)))]) rfl rfl (nb rfl) rfl rfl fun ap r aq => ?_
 refine u6 hE Tryz.call102 (h g0) r ?_
 rintro _ s _ ar t _ _ ⟨c, u, rfl, rfl, h⟩
 refine a7 b3u (a7 (b4U _) ?_)
 refine m7 t Tryz.zeroValue68 (cs := [(eS), (vi 0)]) rfl fun f au v av => ?_
 refine g6 v Tryz.sizeOf68 (vs := [(Value.string c.A8), (vi 0)]) (cs' := [(Value.string c.A8), (vi 0)]) rfl rfl (nb rfl) rfl rfl fun aw k ax => ?_
 have hj1 : ∀ (s8 : a8) (d : l0) H w (_ : Inv w0 ps0 H0 H [bx g0 101 (b6 s8), bx f 68 (z6 d), bx e 68 [(Value.string (l0.mk ⟨#[]⟩ 0).A7), (vi (l0.mk ⟨#[]⟩ 0).a3u)]] w) (_ : K7 s8 d (l0.mk ⟨#[]⟩ 0) H K), b3I (Value.pointer (some ⟨g0, 0, none⟩)) (Value.pointer (some ⟨e, 0, none⟩)) (Value.pointer (some ⟨f, 0, none⟩)) w R E := by
  intro s8 d H w I h
  unfold b3I
  intro _
  unfold K7 at h
  refine u6 hE Tryz.call103 (h g0) I ?_
  rintro _ y _ ay l _ _ ⟨z, rfl, rfl, h⟩
  refine g7 (lW Tryz.isAgg68 Tryz.sizeOf68 rfl (l.bring 1)) ?_
  refine g6 (l.bring 2) Tryz.sizeOf68 (vs := (z6 d)) (cs' := (z6 d)) rfl rfl (nb rfl) rfl rfl fun az m ba => ?_
  refine u1 Tryz.isAgg68 Tryz.sizeOf68 rfl (m.at1 (o := 0) (vs := (z6 d)) (nb rfl) rfl) ?_
  exact hR _ y _ _ (m.drop.bring 1).drop ⟨d, z, rfl, rfl, h⟩
 refine u7 fun j1 hx1 => ?_
 refine m8 h (fun _ h => ?_) (fun _ h => ?_)
 ·refine u6 hE Tryz.call103 (h g0) (k.bring 1) ?_
  rintro _ _ _ bb aa _ _ ⟨n, rfl, rfl, h⟩
  have hj2 : ∀ H w (_ : Inv w0 ps0 H0 H [bx g0 101 (b6 n), bx f 68 [(Value.string (l0.mk c.A8 0).A7), (vi (l0.mk c.A8 0).a3u)], bx e 68 [(Value.string (l0.mk ⟨#[]⟩ 0).A7), (vi (l0.mk ⟨#[]⟩ 0).a3u)]] w) (_ : O7 n (l0.mk c.A8 0) (l0.mk ⟨#[]⟩ 0) H K), b3J (Value.pointer (some ⟨g0, 0, none⟩)) (Value.pointer (some ⟨e, 0, none⟩)) (Value.pointer (some ⟨f, 0, none⟩)) w j1 R E := by
   intro H w I h
   unfold b3J
   intro _
   unfold O7 at h
   refine u6 hE Tryz.call104 (h g0) I ?_
   rintro _ _ _ bc ab _ _ ⟨i, bd, rfl, rfl, h⟩
   refine a7 b3v (a7 a7S ?_)
   refine g6 (ab.bring 1) Tryz.sizeOf3 (vs := [(vi i.N6)]) (cs' := [(Value.string (l0.mk c.A8 0).A7), (vi i.N6)]) rfl rfl (nb rfl) rfl rfl fun be ac bf => ?_
   refine u6 hE Tryz.call103 (h g0) (ac.bring 1) ?_
   rintro _ ad _ bg ae _ _ ⟨af, rfl, rfl, h⟩
   exact hx1 _ _ (hj1 af (l0.mk (l0.mk c.A8 0).A7 i.N6) ad _ (((ae.bring 2).bring 2).bring 2) h)
  refine u7 fun j2 hx2 => ?_
  refine g8 Tryz.call51 (h g0) aa ?_
  rintro _ ag _ bh ah _ _ ⟨p, rfl, rfl, h⟩
  refine m7 ah Tryz.zeroValue103 (cs := [(vi 0), (eS), (vi 0), (vi 0), (vi 0)]) rfl fun bi bj ai bk => ?_
  refine g6 ai Tryz.sizeOf103 (vs := (d8 p)) (cs' := (d8 p)) rfl rfl (nb rfl) rfl rfl fun bl b bm => ?_
  refine a7 a0m (g7 (l1 Tryz.isAgg3 b rfl) (a7 pNe ?_))
  refine a7 (Pu.g fun a => by with_reducible exact a5J) ?_
  refine g7 (Ld.g fun a => by simp only [m6 a]; exact (l1 Tryz.isAgg2 b rfl)) ?_
  refine a7 (Pu.g fun a => by simp only [m6 a]; with_reducible exact pLs) ?_
  refine a7 (L0 _ _) ?_
  refine a7 (Pu.g fun a => by with_reducible exact a5J) ?_
  refine g7 (Ld.g fun a => by simp only [m6 a]; exact (l1 Tryz.isAgg2 b rfl)) ?_
  refine a7 (Pu.g fun a => by simp only [m6 a]; with_reducible exact pGt) ?_
  refine a7 (L0 _ _) ?_
  refine m8 h (fun _ h => ?_) (fun _ h => ?_)
  ·refine u6 hE Tryz.call52 (h g0) (b.bring 1) ?_
   rintro _ aj _ bn ak _ _ ⟨rfl, rfl, h⟩
   exact hx2 _ _ (hj2 aj _ ((((ak.bring 1).drop.bring 2).bring 2).bring 2) h)
  ·exact hx2 _ _ (hj2 ag _ (((b.drop.bring 2).bring 2).bring 2) h)
 ·exact hx1 _ _ (hj1 u (l0.mk c.A8 0) s _ (((k.bring 2).bring 1).bring 2) h)
def T4 [PanQ] (a3v : a8) (f : (List l0)) (g : (List g5)) (i : l7) (H : Hp) (K : l7 → a8 → Hp → Prop) : Prop :=
 ∀ (a : Sl) (d : Hp), Hle H d → SlH d 2 z6 a f → a.n ≤ a.c →
 ∀ (b : Sl) (e : Hp), Hle d e → SlH e 6 s7 b g → b.n ≤ b.c →
 K (l7.mk a b) a3v e
def T5 [PanQ] (f : (List l0)) (a2y : a8) (a : (List g5)) (b : l7) (H : Hp) (n3 : (a8 × (List g5) × l7) → Hp → Prop) (K : l7 → a8 → Hp → Prop) : Prop :=
 u9 a2y H (fun c d =>
 (¬ (c.f7 = 5) →
 L9 a2y d (fun g i =>
 A9 a2y 1 g i (fun j =>
 R8 a2y 1 j (fun e k l =>
 (a.length + ([e] : List g5).length) * 121 ≤ 140737488355328 ∧
 n3 (k, (a ++ [e]), b) l)))) ∧
 (c.f7 = 5 →
 T4 a2y f a b d K))
def O8 [PanQ] (s8 : a8) (a : (List l0)) (b : (List g5)) (c : l7) (H : Hp) (K : l7 → a8 → Hp → Prop) : Prop :=
 TL ((s8, b, c) : a8 × (List g5) × l7) H fun (s : a8 × (List g5) × l7) H n3 => T5 a s.1 s.2.1 s.2.2 H n3 K
def T6 [PanQ] (a : (List l0)) (c : (List g5)) (d : l7) (a0H : a8) (H : Hp) (n4 : ((List l0) × (List g5) × l7 × a8) → Hp → Prop) (K : l7 → a8 → Hp → Prop) : Prop :=
 i6 a0H ⟨#[118, 97, 114]⟩ H (fun b e =>
 TG (b = false) (i6 a0H ⟨#[97, 114, 114, 97, 121]⟩ e) false e (fun (f : Bool) (g : Hp) =>
 ((b || f) = true →
 W0 a0H g (fun i j k =>
 (a.length + ([i] : List l0).length) * 25 ≤ 140737488355328 ∧
 n4 ((a ++ [i]), c, d, j) k)) ∧
 ((b || f) = false →
 O8 a0H a c d g K)))
def a0U [PanQ] (x0 : a8) (H : Hp) (K : l7 → a8 → Hp → Prop) : Prop :=
 TL (([], [], (l7.mk (Sl.mk none 0 0) (Sl.mk none 0 0)), x0) : (List l0) × (List g5) × l7 × a8) H fun (s : (List l0) × (List g5) × l7 × a8) H n4 => T6 s.1 s.2.1 s.2.2.1 s.2.2.2 H n4 K
theorem a6h [PanQ] (x0 : a8) {H : Hp} {K : l7 → a8 → Hp → Prop} (h : a0U x0 H K) : a0M x0 H K := by
 intro g0
 refine Ct.ofE fun w0 w ps0 H0 R E I hR hE => c2H ?_
 unfold a0U at h
 unfold F21
 refine m7 I Tryz.zeroValue26 (cs := [(nS), (nS)]) rfl fun r dt cb du => ?_
 refine m7 cb Tryz.zeroValue26 (cs := [(nS), (nS)]) rfl fun t dv cc dw => ?_
 have hj1 : ∀ (s8 : a8) (ab : (List l0)) (ai : (List g5)) (aj : l7) (g : Sl) (ac : Frag) (ak : Sl) (al : Frag) H w (_ : RowL 68 2 z6 g ab ac) (_ : RowL 56 6 s7 ak ai al) (_ : Inv w0 ps0 H0 H [bx g0 101 (b6 s8), bx t 26 [(vs g), (vs ak)], bx r 26 (p7 aj), ac, al] w) (_ : O8 s8 ab ai aj H K), b3E (Value.pointer (some ⟨g0, 0, none⟩)) (Value.pointer (some ⟨r, 0, none⟩)) (Value.pointer (some ⟨t, 0, none⟩)) w R E := by
  intro s8 ab ai aj g ac ak al H w cd ce I h
  unfold b3E
  intro _
  unfold O8 at h
  have hj2 : ∀ (a3v : a8) (ar : (List l0)) (au : (List g5)) (av : l7) (aw : Frag) (p : Sl) (ax : Frag) H w (_ : RowL 68 2 z6 g ar aw) (_ : RowL 56 6 s7 p au ax) (_ : Inv w0 ps0 H0 H [bx g0 101 (b6 a3v), bx t 26 [(vs g), (vs p)], bx r 26 (p7 av), aw, ax] w) (_ : T4 a3v ar au av H K), b3D (Value.pointer (some ⟨r, 0, none⟩)) (Value.pointer (some ⟨t, 0, none⟩)) w R E := by
   intro a3v ar au av aw p ax H w cf cg I h
   unfold b3D
   intro _
   unfold T4 at h
   refine g7 (ldA Tryz.isAgg26 Tryz.sizeOf26 rfl ((I.bring 1).at1 (o := 0) (vs := [(vs g), (vs p)]) (nb rfl) rfl)) ?_
   refine g6 (I.bring 2) Tryz.sizeOf26 (vs := [(vs g), (vs p)]) (cs' := [(vs g), (vs p)]) rfl rfl (nb rfl) rfl rfl fun dx bi dy => ?_
   refine u1 Tryz.isAgg26 Tryz.sizeOf26 rfl (bi.at1 (o := 0) (vs := [(vs g), (vs p)]) (nb rfl) rfl) ?_
   obtain ⟨ch, ci, cj, ck, cl⟩ := Inv.freezeC (bi.bring 3) cf (by decide)
   replace h := h g ch cj ck cl
   obtain ⟨bj, cm, cn, co, cp⟩ := Inv.freezeC (ci.bring 3) cg (by decide)
   replace h := h p bj cn co cp
   exact hR _ bj _ _ (cm.drop.bring 1).drop ⟨(l7.mk g p), a3v, rfl, rfl, h⟩
  refine u7 fun j2 hx2 => ?_
  obtain ⟨ay, ad, cq, cr⟩ := h
  refine E8 (J := fun n l w => ∃ (s : a8 × (List g5) × l7) (H : Hp) (ae : Sl) (am : Frag) , n = ad s ∧ l = (match s with | (a2y, k, m) => []) ∧ (match s with | (a2y, k, m) => RowL 56 6 s7 ae k am) ∧ (match s with | (a2y, k, m) => Inv w0 ps0 H0 H [bx g0 101 (b6 a2y), bx t 26 [(vs g), (vs ae)], bx r 26 (p7 m), ac, am] w) ∧ ay s H) ⟨_, (s8, ai, aj), H, ak, al, rfl, rfl, ce, (((((I.bring 4).bring 4).bring 4).bring 4).bring 4), cq⟩ ?_
  rintro dz ea w next3 ⟨⟨a2y, k, m⟩, H, ae, am, rfl, bk, az, I, ct⟩ hn3
  dsimp only at bk I az
  clear bk
  obtain ⟨n3, hm3, h⟩ : ∃ n3 : (a8 × (List g5) × l7) → Hp → Prop, (∀ s' H', n3 s' H' → ay s' H' ∧ ad s' < ad (a2y, k, m)) ∧ T5 ab a2y k m H n3 K := ⟨_, fun _ _ h => h, cr (a2y, k, m) H (fun s' H' => ay s' H' ∧ ad s' < ad (a2y, k, m)) ct (fun _ _ a b => ⟨a, b⟩)⟩
  unfold b7z
  unfold T5 at h
  refine g8 Tryz.call51 (h g0) I ?_
  rintro _ cu _ eb bl _ _ ⟨ec, rfl, rfl, h⟩
  refine a7 a4Y (a7 pNe ?_)
  refine a6J h (fun _ h => ?_) (fun _ h => ?_)
  ·refine g8 Tryz.call56 (h g0) bl ?_
   rintro _ _ _ ed cv _ _ ⟨ee, rfl, rfl, h⟩
   refine u6 hE Tryz.call55 (h g0) cv ?_
   rintro _ _ _ ef cw _ _ ⟨rfl, rfl, h⟩
   refine U3 cw fun eg an => ?_
   refine o8 a3R ?_
   refine A0 (l1 Tryz.isAgg24 (an.bring 1) rfl) ?_
   refine u6 hE Tryz.call57 (h g0) an ?_
   rintro _ cx _ eh bm _ cy ⟨bn, cz, rfl, rfl, h⟩
   refine ⟨(cy _ (an.bring 1).lt1 (Inv.Y1 (Fi := [bx g0 101 (b6 a2y)]) ((an.bring 1).bring 1))), ?_⟩
   refine U4 (e := 56) (c := s7) (xs := [bn]) bm (b5p _ _ _ _ _ _ _ _ _ _ _ _ _ _) rfl rfl a4v a4w (nb rfl) fun ei ej ek da bo db => ?_
   refine ⟨(db _ (bm.bring 1).lt1), ?_⟩
   obtain ⟨dc, h⟩ := h
   refine b7p (s := ae) (xs := k) (bo.bring 5) az (da.srcO ((bo.bring 5).bring 1)) dc fun ba dd el de df em => ?_
   refine o8 a3R ?_
   refine g6 ((df.bring 1).drop.bring 2) Tryz.sizeOf24 (vs := [(vs ba)]) (cs' := [(vs g), (vs ba)]) rfl rfl (nb rfl) rfl rfl fun en dg eo => ?_
   exact hn3 _ _ _ (hm3 _ _ h).2 ⟨(cz, (k ++ [bn]), m), cx, ba, dd, rfl, rfl, de, (((((dg.bring 1).bring 4).bring 4).bring 3).bring 4), (hm3 _ _ h).1⟩
  ·exact hx2 _ _ (hj2 a2y ab k m ac ae am cu _ cd az (((((bl.bring 4).bring 4).bring 4).bring 4).bring 4) h)
 refine u7 fun j1 hx1 => ?_
 obtain ⟨bb, af, dh, di⟩ := h
 refine E8 (J := fun n l w => ∃ (s : (List l0) × (List g5) × l7 × a8) (H : Hp) (y : Sl) (ag : Frag) (u : Sl) (z : Frag) , n = af s ∧ l = (match s with | (d, j, f, a0H) => []) ∧ (match s with | (d, j, f, a0H) => RowL 68 2 z6 y d ag) ∧ (match s with | (d, j, f, a0H) => RowL 56 6 s7 u j z) ∧ (match s with | (d, j, f, a0H) => Inv w0 ps0 H0 H [bx t 26 [(vs y), (vs u)], bx r 26 (p7 f), bx g0 101 (b6 a0H), ag, z] w) ∧ bb s H) ⟨_, ([], [], (l7.mk (Sl.mk none 0 0) (Sl.mk none 0 0)), x0), H, (Sl.mk none 0 0), [], (Sl.mk none 0 0), [], rfl, rfl, (RowL.nil a8t a8u), (RowL.nil a4v a4w), ((((cc.nil.nil.bring 1).bring 4).bring 4).bring 4), dh⟩ ?_
 rintro ep eq w next4 ⟨⟨d, j, f, a0H⟩, H, y, ag, u, z, rfl, bp, bc, bd, I, dj⟩ hn4
 dsimp only at bp I bc bd
 clear bp
 obtain ⟨n4, hm4, h⟩ : ∃ n4 : ((List l0) × (List g5) × l7 × a8) → Hp → Prop, (∀ s' H', n4 s' H' → bb s' H' ∧ af s' < af (d, j, f, a0H)) ∧ T6 d j f a0H H n4 K := ⟨_, fun _ _ h => h, di (d, j, f, a0H) H (fun s' H' => bb s' H' ∧ af s' < af (d, j, f, a0H)) dj (fun _ _ a b => ⟨a, b⟩)⟩
 unfold b7A
 unfold T6 at h
 refine g8 Tryz.call53 (h g0) (I.bring 2) ?_
 rintro _ bq _ br bs _ _ ⟨be, rfl, rfl, h⟩
 simp only [C9]
 refine O5 (D := fun bt ao => ∃ (aa : Bool) (q : Hp) , bt = (gv be false (vB aa)) ∧ (Inv w0 ps0 H0 q [bx g0 101 (b6 a0H), bx t 26 [(vs y), (vs u)], bx r 26 (p7 f), ag, z] ao) ∧ (∀ i, i < br.heap.size → ¬ inF [bx g0 101 (b6 a0H)] i → ao.heap[i]? = br.heap[i]?) ∧ Hle bq q ∧ (((be || aa) = true →
 W0 a0H q (fun (ah : l0) (bf : a8) (bg : Hp) =>
 (d.length + ([ah] : List l0).length) * 25 ≤ 140737488355328 ∧
 n4 ((d ++ [ah]), j, f, bf) bg)) ∧
 ((be || aa) = false →
 O8 a0H d j f q K))) (fun v => ?_) (fun v => ?_) ?_
 ·replace h := h.1 v
  have bu := v
  simp only [m6 bu]
  refine g8 Tryz.call53 (h g0) bs ?_
  rintro _ q _ ao ap bv bw ⟨aa, rfl, rfl, h⟩
  exact ⟨aa, q, by rfl, ap, bw, bv, h⟩
 ·exact ⟨false, bq, by rw [X9 v], bs, fun _ _ _ => rfl, Hle.refl _, h.2 v⟩
 ·clear h
  rintro bt ao ⟨aa, q, rfl, ap, bw, bv, h⟩
  refine a7 (L0 _ _) ?_
  refine m8 h (fun _ h => ?_) (fun _ h => ?_)
  ·refine U3 ap fun er aq => ?_
   refine o8 a6r ?_
   refine A0 (l1 Tryz.isAgg23 (aq.bring 1) rfl) ?_
   refine u6 hE Tryz.call54 (h g0) aq ?_
   rintro _ bg _ es bz _ dk ⟨ah, bf, rfl, rfl, h⟩
   refine ⟨(dk _ (aq.bring 1).lt1 (Inv.Y1 (Fi := [bx g0 101 (b6 a0H)]) ((aq.bring 1).bring 1))), ?_⟩
   refine U4 (e := 68) (c := z6) (xs := [ah]) bz (c0u _ _) rfl rfl a8t a8u (nb rfl) fun et eu ev dl ca dm => ?_
   refine ⟨(dm _ (bz.bring 1).lt1), ?_⟩
   obtain ⟨dn, h⟩ := h
   refine c2w (s := y) (xs := d) (ca.bring 4) bc (dl.srcO ((ca.bring 4).bring 1)) dn fun bh dp ew dq dr ex => ?_
   refine o8 a6r ?_
   refine g6 ((dr.bring 1).drop.bring 2) Tryz.sizeOf23 (vs := [(vs bh)]) (cs' := [(vs bh), (vs u)]) rfl rfl (nb rfl) rfl rfl fun ey ds ez => ?_
   exact hn4 _ _ _ (hm4 _ _ h).2 ⟨((d ++ [ah]), j, f, bf), bg, bh, dp, u, z, rfl, rfl, dq, bd, (((((ds.bring 4).bring 2).bring 3).bring 4).bring 4), (hm4 _ _ h).1⟩
  ·exact hx1 _ _ (hj1 a0H d j f y ag u z q _ bc bd (((((ap.bring 4).bring 4).bring 4).bring 4).bring 4) h)
def a4I [PanQ] (x0 : a8) (H : Hp) (K : b7 → a8 → Hp → Prop) : Prop :=
 K3 x0 1 H (fun a b c =>
 K a b c)
theorem a7H [PanQ] (x0 : a8) {H : Hp} {K : b7 → a8 → Hp → Prop} (h : a4I x0 H K) : a4G x0 H K := by
 intro g0
 refine Ct.ofE fun w0 w ps0 H0 R E I hR hE => c2K ?_
 unfold a4I at h
 unfold F34
 refine m7 I Tryz.zeroValue40 (cs := [(vi 0), (vi 0), (eS), (nS)]) rfl fun g i c j => ?_
 refine u6 hE Tryz.call35 (h g0) (c.bring 1) ?_
 rintro _ d _ k e _ _ ⟨a, f, rfl, rfl, h⟩
 refine g6 (e.bring 1) Tryz.sizeOf40 (vs := (c8 a)) (cs' := (c8 a)) rfl rfl (nb rfl) rfl rfl fun l b m => ?_
 refine u1 Tryz.isAgg40 Tryz.sizeOf40 rfl (b.at1 (o := 0) (vs := (c8 a)) (nb rfl) rfl) ?_
 exact hR _ d _ _ b.drop ⟨a, f, rfl, rfl, h⟩
def a2r (H : Hp) (K : Int → Int → Hp → Prop) : Prop :=
 K 0 0 H
def a0q (b8O : ByteArray) (b : ByteArray) (a : Nat) (H : Hp) (n2 : Nat → Hp → Prop) (K : Int → Int → Hp → Prop) : Prop :=
 (a < b.size →
 (¬ (((Utf8.decode b a).1 : Int) = 65533) →
 n2 (a + (Utf8.decode b a).2) H) ∧
 (((Utf8.decode b a).1 : Int) = 65533 →
 (0 : Int) ≤ ((a : Nat) : Int) ∧ (((a : Nat) : Int) : Int) ≤ b8O.size ∧
 V8 (b8O.extract (((a : Nat) : Int) : Int).toNat b8O.size) H (fun e c d =>
 (c = 1 →
 K ((a : Nat) : Int) 11 d) ∧
 (¬ (c = 1) →
 n2 (a + (Utf8.decode b a).2) d)))) ∧
 (¬ (a < b.size) →
 a2r H K)
def a3r (x0 : ByteArray) (H : Hp) (K : Int → Int → Hp → Prop) : Prop :=
 (65536 < (x0.size : Int) →
 K 0 10 H) ∧
 (¬ (65536 < (x0.size : Int)) →
 TL (0 : Nat) H fun (s : Nat) H n2 => a0q x0 x0 s H n2 K)
theorem a8z (x0) {H K} (h : a3r x0 H K) : a5m x0 H K := by
 refine Ct.of fun w0 w ps0 H0 R E I hR => c3n ?_
 unfold a3r at h
 unfold F97
 refine a7 (a5o _) (a7 pGt ?_)
 refine j9 h (fun _ h => ?_) (fun _ h => ?_)
 ·exact hR _ H _ _ I ⟨0, 10, rfl, rfl, h⟩
 ·have hj1 : ∀ H w (_ : Inv w0 ps0 H0 H [] w) (_ : a2r H K), b3Z w R E := by
   intro H w I h
   unfold b3Z
   intro _
   unfold a2r at h
   exact hR _ H _ _ I ⟨0, 0, rfl, rfl, h⟩
  refine u7 fun j1 hx1 => ?_
  refine a9g Tryz.underlying9 x0 I fun m aa o ab => ?_
  obtain ⟨f, d, p, q⟩ := h
  refine E8 (J := fun n l w => ∃ (s : Nat) (H : Hp) , n = d s ∧ l = [] ∧ Inv w0 ps0 H0 H [itf m x0 s] w ∧ f s H) ⟨_, 0, H, rfl, rfl, o, p⟩ ?_
  rintro ac ad w next2 ⟨c, H, rfl, r, I, t⟩ hn2
  clear r
  obtain ⟨n2, hm2, h⟩ : ∃ n2 : Nat → Hp → Prop, (∀ s' H', n2 s' H' → f s' H' ∧ d s' < d c) ∧ a0q x0 x0 c H n2 K := ⟨_, fun _ _ h => h, q c H (fun s' H' => f s' H' ∧ d s' < d c) t (fun _ _ a b => ⟨a, b⟩)⟩
  unfold b7N
  unfold a0q at h
  refine b0w I (fun g ae i af => ?_) (fun g => ?_)
  ·replace h := h.1 g
   refine a7 (j7 _ _ (vB true) rfl) ?_
   refine a0G (fun e => ?_) (fun e => by cases e)
   refine a7 (j7 _ _ (vi ((c : Nat) : Int)) rfl) (a7 (j7 _ _ (Value.int .i32 ((Utf8.decode x0 c).1 : Int)) rfl) (a7 pNe ?_))
   refine a6J h (fun _ h => ?_) (fun _ h => ?_)
   ·exact hn2 _ _ _ (hm2 _ _ h).2 ⟨(c + (Utf8.decode x0 c).2), H, rfl, rfl, i, (hm2 _ _ h).1⟩
   ·obtain ⟨u, v, h⟩ := h
    refine a7 (b5n x0 Tryz.underlying9 u v) ?_
    refine g8 Tryz.call128 h i ?_
    rintro _ j _ ag k _ _ ⟨y, z, rfl, rfl, h⟩
    refine a7 (j7 _ _ (Value.int .i32 y) rfl) (a7 (j7 _ _ (vi z) rfl) (a7 pEq ?_))
    refine j9 h (fun _ h => ?_) (fun _ h => ?_)
    ·exact hR _ j _ _ k.drop ⟨((c : Nat) : Int), 11, rfl, rfl, h⟩
    ·exact hn2 _ _ _ (hm2 _ _ h).2 ⟨(c + (Utf8.decode x0 c).2), j, rfl, rfl, k, (hm2 _ _ h).1⟩
  ·replace h := h.2 g
   refine a7 (j7 _ _ (vB false) rfl) ?_
   refine a0G (fun e => by cases e) (fun e => ?_)
   exact hx1 _ _ (hj1 H _ I.drop h)
def t6 (U1 : Int) (q9 : ByteArray) (r7 : Int) (u2 : b9) (B0 : (List b5)) (H : Hp) (K : ByteArray → d6 → (List b5) → Hp → Prop) : Prop :=
 (0 : Int) ≤ U1 ∧ (U1 : Int) ≤ r7 ∧ (r7 : Int) ≤ q9.size ∧
 K (q9.extract (U1 : Int).toNat (r7 : Int).toNat) (d6.mk q9 r7 u2 (Sl.mk none 0 0)) B0 H
def v8 (b0a : Int) (E7 : Int) (v6 : Bool) (m9 : ByteArray) (o0 : Int) (l9 : b9) (m1 : (List b5)) (H : Hp) (n2 : (Int × Bool × ByteArray × Int × b9 × (List b5)) → Hp → Prop) (K : ByteArray → d6 → (List b5) → Hp → Prop) : Prop :=
 TG (v6 = true) (Z6 E7 H) false H (fun (b : Bool) (c : Hp) =>
 ((v6 && b) = true →
 y7 (d6.mk m9 o0 l9 (Sl.mk none 0 0)) m1 c (fun a d e =>
 u4 (p6 a) d e (fun f g i =>
 n2 (f, g, a.fs, a.fn, a.fat, d) i))) ∧
 ((v6 && b) = false →
 t6 b0a m9 o0 l9 m1 c K))
def H7 (x0 : d6) (a : (List b5)) (H : Hp) (K : ByteArray → d6 → (List b5) → Hp → Prop) : Prop :=
 u4 (p6 x0) a H (fun b c d =>
 TL ((b, c, x0.fs, x0.fn, x0.fat, a) : Int × Bool × ByteArray × Int × b9 × (List b5)) d fun (s : Int × Bool × ByteArray × Int × b9 × (List b5)) H n2 => v8 x0.fn s.1 s.2.1 s.2.2.1 s.2.2.2.1 s.2.2.2.2.1 s.2.2.2.2.2 H n2 K)
theorem a0r (x0 q) {H K} (h : H7 x0 q H K) : G8 x0 q H K := by
 intro g0 y z aa
 refine Ct.of fun w0 w ps0 H0 R E I hR => a9j ?_
 unfold H7 at h
 unfold b4b
 refine a7 (q7 _) (a7 U2 (g7 (l1 Tryz.isAgg3 I rfl) ?_))
 have hj1 : ∀ (q9 : ByteArray) (r7 : Int) (u2 : b9) (B0 : (List b5)) (R4 : Sl) (K5 : Frag) H w (_ : RowL 103 5 d8 R4 B0 K5) (_ : Inv w0 ps0 H0 H [bx g0 155 [(Value.string q9), (vi r7), (vi u2.v7), (vi u2.C8), (vs R4)], K5] w) (_ : t6 x0.fn q9 r7 u2 B0 H K), a3Z (Value.pointer (some ⟨g0, 0, none⟩)) (vi x0.fn) w R E := by
  intro q9 r7 u2 B0 R4 K5 H w a2q I h
  unfold a3Z
  intro _
  unfold t6 at h
  refine U3 I fun ax r => ?_
  refine o8 (q7 _) ?_
  refine o8 a4q ?_
  refine o8 (q7 _) ?_
  refine o8 U2 ?_
  refine A0 (l1 Tryz.isAgg9 r rfl) ?_
  refine A0 (l1 Tryz.isAgg3 r rfl) ?_
  obtain ⟨ak, al, am, h⟩ := h
  refine o8 (a7R q9 Tryz.underlying9 ak al am) ?_
  exact hR _ H _ _ ((r.bring 1).bring 1) ⟨(q9.extract (x0.fn : Int).toNat (r7 : Int).toNat), (d6.mk q9 r7 u2 (Sl.mk none 0 0)), B0, R4, K5, rfl, rfl, a2q, h⟩
 refine u7 fun j1 hx1 => ?_
 refine g8 Tryz.call100 (h g0 y z aa) ((I.bring 1).bring 1) ?_
 rintro _ an _ ay ao _ _ ⟨ab, ac, rfl, rfl, h⟩
 refine a7 (j7 _ _ (Value.int .i32 ab) rfl) (a7 (j7 _ _ (vB ac) rfl) ?_)
 obtain ⟨t, g, ap, aq⟩ := h
 refine E8 (J := fun n l w => ∃ (s : Int × Bool × ByteArray × Int × b9 × (List b5)) (H : Hp) (G1 : Sl) (C2 : Frag) , n = g s ∧ l = (match s with | (E7, v6, m9, o0, l9, m1) => [(Value.int .i32 E7), (vB v6)]) ∧ (match s with | (E7, v6, m9, o0, l9, m1) => RowL 103 5 d8 G1 m1 C2) ∧ (match s with | (E7, v6, m9, o0, l9, m1) => Inv w0 ps0 H0 H [bx g0 155 [(Value.string m9), (vi o0), (vi l9.v7), (vi l9.C8), (vs G1)], C2] w) ∧ t s H) ⟨_, (ab, ac, x0.fs, x0.fn, x0.fat, q), an, y, z, rfl, rfl, aa, ((ao.bring 1).bring 1), ap⟩ ?_
 rintro az ba w next2 ⟨⟨E7, v6, m9, o0, l9, m1⟩, H, G1, C2, rfl, u, O0, I, ar⟩ hn2
 dsimp only at u I O0
 simp only [List.map_cons, List.map_nil, List.cons.injEq, and_true] at u
 obtain ⟨e6, e7⟩ := u
 simp only [e6, e7]
 obtain ⟨n2, hm2, h⟩ : ∃ n2 : (Int × Bool × ByteArray × Int × b9 × (List b5)) → Hp → Prop, (∀ s' H', n2 s' H' → t s' H' ∧ g s' < g (E7, v6, m9, o0, l9, m1)) ∧ v8 x0.fn E7 v6 m9 o0 l9 m1 H n2 K := ⟨_, fun _ _ h => h, aq (E7, v6, m9, o0, l9, m1) H (fun s' H' => t s' H' ∧ g s' < g (E7, v6, m9, o0, l9, m1)) ar (fun _ _ a b => ⟨a, b⟩)⟩
 unfold a7F
 unfold v8 at h
 simp only [C9]
 refine O5 (D := fun ad j => ∃ (f : Bool) (c : Hp) , ad = (gv v6 true (vB f)) ∧ (Inv w0 ps0 H0 c [bx g0 155 [(Value.string m9), (vi o0), (vi l9.v7), (vi l9.C8), (vs G1)], C2] j) ∧ (∀ i, i < w.heap.size → ¬ inF [] i → j.heap[i]? = w.heap[i]?) ∧ Hle H c ∧ (((v6 && f) = true →
 y7 (d6.mk m9 o0 l9 (Sl.mk none 0 0)) m1 c (fun (d : d6) (k : (List b5)) (au : Hp) =>
 u4 (p6 d) k au (fun (m : Int) (o : Bool) (v : Hp) =>
 n2 (m, o, d.fs, d.fn, d.fat, k) v))) ∧
 ((v6 && f) = false →
 t6 x0.fn m9 o0 l9 m1 c K))) (fun e => ?_) (fun e => ?_) ?_
 ·replace h := h.1 e
  have ae := e
  simp only [m6 ae]
  refine g8 Tryz.call136 h I ?_
  rintro _ c _ j p af ag ⟨f, rfl, rfl, h⟩
  exact ⟨f, c, by rfl, p, ag, af, h⟩
 ·exact ⟨false, H, by rw [X9 e], I, fun _ _ _ => rfl, Hle.refl _, h.2 e⟩
 ·clear h
  rintro ad j ⟨f, c, rfl, p, ag, af, h⟩
  refine a7 (I0 _ _) ?_
  refine m8 h (fun _ h => ?_) (fun _ h => ?_)
  ·refine g8 Tryz.call152 (h g0 G1 C2 O0) ((p.bring 1).bring 1) ?_
   rintro _ _ _ bb av _ _ ⟨d, k, ah, ai, rfl, rfl, aj, h⟩
   refine g8 Tryz.call100 (h g0 ah ai aj) ((av.bring 1).bring 1) ?_
   rintro _ v _ bc aw _ _ ⟨m, o, rfl, rfl, h⟩
   refine a7 (j7 _ _ (Value.int .i32 m) rfl) (a7 (j7 _ _ (vB o) rfl) ?_)
   exact hn2 _ _ _ (hm2 _ _ h).2 ⟨(m, o, d.fs, d.fn, d.fat, k), v, ah, ai, rfl, rfl, aj, ((aw.bring 1).bring 1), (hm2 _ _ h).1⟩
  ·exact hx1 _ _ (hj1 m9 o0 l9 m1 G1 C2 c _ O0 ((p.bring 1).bring 1) h)
def a0b (x0 : Int) (H : Hp) (K : Bool → Hp → Prop) : Prop :=
 P0 x0 H (fun a b =>
 K ((decide (a = 1)) || (decide (a = 2))) b)
theorem a5w (x0) {H K} (h : a0b x0 H K) : Z7 x0 H K := by
 refine Ct.of fun w0 w ps0 H0 R E I hR => c0S ?_
 unfold a0b at h
 unfold c3F
 refine g8 Tryz.call132 h I ?_
 rintro _ c _ e d _ _ ⟨b, rfl, rfl, h⟩
 refine a7 pEq ?_
 simp only [C9]
 refine a7 (Pu.g fun a => by simp only [m6 a]; with_reducible exact pEq) ?_
 refine a7 (L0 _ _) ?_
 exact hR _ c _ _ d ⟨((decide (b = 1)) || (decide (b = 2))), rfl, rfl, h⟩
def T7 (a1o : ByteArray) (a1p : Int) (a0I : b9) (a0d : (List b5)) (H : Hp) (n1 : (ByteArray × Int × b9 × (List b5)) → Hp → Prop) (K : d6 → (List b5) → Hp → Prop) : Prop :=
 Q2 (d6.mk a1o a1p a0I (Sl.mk none 0 0)) a0d H (fun d e =>
 a1L d ⟨#[35]⟩ e (fun b c =>
 (b = true →
 G8 (d6.mk a1o a1p a0I (Sl.mk none 0 0)) a0d c (fun l f g i =>
 C5 (p6 f) g i (fun m a j k =>
 n1 (a.fs, a.fn, a.fat, j) k))) ∧
 (b = false →
 K (d6.mk a1o a1p a0I (Sl.mk none 0 0)) a0d c)))
def a0V (x0 : d6) (b : (List b5)) (H : Hp) (K : d6 → (List b5) → Hp → Prop) : Prop :=
 C5 (p6 x0) b H (fun e a c d =>
 TL ((a.fs, a.fn, a.fat, c) : ByteArray × Int × b9 × (List b5)) d fun (s : ByteArray × Int × b9 × (List b5)) H n1 => T7 s.1 s.2.1 s.2.2.1 s.2.2.2 H n1 K)
theorem a6i (x0 g) {H K} (h : a0V x0 g H K) : W1 x0 g H K := by
 intro g0 k m o
 refine Ct.of fun w0 w ps0 H0 R E I hR => c3o ?_
 unfold a0V at h
 unfold F99
 refine g8 Tryz.call133 (h g0 k m o) ((I.bring 1).bring 1) ?_
 rintro _ p _ an q _ _ ⟨ao, d, r, t, u, rfl, rfl, v, h⟩
 obtain ⟨e, c, y, z⟩ := h
 refine E8 (J := fun n l w => ∃ (s : ByteArray × Int × b9 × (List b5)) (H : Hp) (a5x : Sl) (a5y : Frag) , n = c s ∧ l = (match s with | (a1o, a1p, a0I, a0d) => []) ∧ (match s with | (a1o, a1p, a0I, a0d) => RowL 103 5 d8 a5x a0d a5y) ∧ (match s with | (a1o, a1p, a0I, a0d) => Inv w0 ps0 H0 H [bx g0 155 [(Value.string a1o), (vi a1p), (vi a0I.v7), (vi a0I.C8), (vs a5x)], a5y] w) ∧ e s H) ⟨_, (d.fs, d.fn, d.fat, r), p, t, u, rfl, rfl, v, ((q.bring 1).bring 1), y⟩ ?_
 rintro ap aq w next1 ⟨⟨a1o, a1p, a0I, a0d⟩, H, a5x, a5y, rfl, i, a8b, I, aa⟩ hn1
 dsimp only at i I a8b
 clear i
 obtain ⟨n1, hm1, h⟩ : ∃ n1 : (ByteArray × Int × b9 × (List b5)) → Hp → Prop, (∀ s' H', n1 s' H' → e s' H' ∧ c s' < c (a1o, a1p, a0I, a0d)) ∧ T7 a1o a1p a0I a0d H n1 K := ⟨_, fun _ _ h => h, z (a1o, a1p, a0I, a0d) H (fun s' H' => e s' H' ∧ c s' < c (a1o, a1p, a0I, a0d)) aa (fun _ _ a b => ⟨a, b⟩)⟩
 unfold b7O
 unfold T7 at h
 refine g8 Tryz.call135 (h g0 a5x a5y a8b) ((I.bring 1).bring 1) ?_
 rintro _ _ _ ar ab _ _ ⟨au, rfl, rfl, h⟩
 refine g8 Tryz.call134 h ab ?_
 rintro _ ac _ av j _ _ ⟨aw, rfl, rfl, h⟩
 refine m8 h (fun _ h => ?_) (fun _ h => ?_)
 ·refine g8 Tryz.call133 (h g0 a5x a5y a8b) ((j.bring 1).bring 1) ?_
  rintro _ _ _ ax ad _ _ ⟨ay, az, ba, ae, af, rfl, rfl, ag, h⟩
  refine g8 Tryz.call133 (h g0 ae af ag) ((ad.bring 1).bring 1) ?_
  rintro _ ah _ bb ai _ _ ⟨bc, f, aj, ak, al, rfl, rfl, am, h⟩
  exact hn1 _ _ _ (hm1 _ _ h).2 ⟨(f.fs, f.fn, f.fat, aj), ah, ak, al, rfl, rfl, am, ((ai.bring 1).bring 1), (hm1 _ _ h).1⟩
 ·exact hR _ ac _ _ ((j.bring 1).bring 1) ⟨(d6.mk a1o a1p a0I (Sl.mk none 0 0)), a0d, a5x, a5y, rfl, rfl, a8b, h⟩
def V3 (f : b5) (q9 : ByteArray) (r7 : Int) (u2 : b9) (B0 : (List b5)) (H : Hp) (K : b5 → Int → d6 → (List b5) → Hp → Prop) : Prop :=
 Q2 (d6.mk q9 r7 u2 (Sl.mk none 0 0)) B0 H (fun a e =>
 (0 : Int) ≤ 1 ∧ (1 : Int) ≤ a.size ∧
 y7 (d6.mk q9 r7 u2 (Sl.mk none 0 0)) B0 e (fun b c d =>
 (((decide ((a.extract 0 (1 : Int).toNat) = ⟨#[38]⟩)) || (decide ((a.extract 0 (1 : Int).toNat) = ⟨#[124]⟩))) = true →
 K (b5.mk 0 ⟨#[]⟩ 0 (b9.mk 0 0)) 20 (p6 b) c d) ∧
 (((decide ((a.extract 0 (1 : Int).toNat) = ⟨#[38]⟩)) || (decide ((a.extract 0 (1 : Int).toNat) = ⟨#[124]⟩))) = false →
 K (b5.mk 4 (a.extract 0 (1 : Int).toNat) 0 (b9.mk 0 0)) 0 (p6 b) c d)))
def V4 (v6 : L4) (A5 : Int) (a : b5) (m9 : ByteArray) (o0 : Int) (l9 : b9) (m1 : (List b5)) (H : Hp) (n2 : (Int × b5 × ByteArray × Int × b9 × (List b5)) → Hp → Prop) (K : b5 → Int → d6 → (List b5) → Hp → Prop) : Prop :=
 (A5 < 6 →
 (0 : Int) ≤ A5 ∧ (A5 : Int) < 6 ∧
 Q2 (d6.mk m9 o0 l9 (Sl.mk none 0 0)) m1 H (fun d e =>
 a1L d (([v6.f0, v6.f1, v6.f2, v6.f3, v6.f4, v6.f5] : List ByteArray).getD (A5 : Int).toNat ⟨#[]⟩) e (fun b c =>
 (b = true →
 y7 (d6.mk m9 o0 l9 (Sl.mk none 0 0)) m1 c (fun f g i =>
 y7 (p6 f) g i (fun j k l =>
 K (b5.mk 4 (([v6.f0, v6.f1, v6.f2, v6.f3, v6.f4, v6.f5] : List ByteArray).getD (A5 : Int).toNat ⟨#[]⟩) 0 (b9.mk 0 0)) 0 (p6 j) k l))) ∧
 (b = false →
 n2 ((IntKind.wrap .i64 (A5 + 1)), a, m9, o0, l9, m1) c)))) ∧
 (¬ (A5 < 6) →
 V3 a m9 o0 l9 m1 H K)
def a1w (x0 : d6) (a : (List b5)) (H : Hp) (K : b5 → Int → d6 → (List b5) → Hp → Prop) : Prop :=
 TL ((0, (b5.mk 0 ⟨#[]⟩ 0 (b9.mk 0 0)), x0.fs, x0.fn, x0.fat, a) : Int × b5 × ByteArray × Int × b9 × (List b5)) H fun (s : Int × b5 × ByteArray × Int × b9 × (List b5)) H n2 => V4 (L4.mk ⟨#[61, 61]⟩ ⟨#[33, 61]⟩ ⟨#[60, 61]⟩ ⟨#[62, 61]⟩ ⟨#[38, 38]⟩ ⟨#[124, 124]⟩) s.1 s.2.1 s.2.2.1 s.2.2.2.1 s.2.2.2.2.1 s.2.2.2.2.2 H n2 K
theorem a6S (x0 j) {H K} (h : a1w x0 j H K) : a3C x0 j H K := by
 intro g0 e af ag
 refine Ct.of fun w0 w ps0 H0 R E I hR => c0Z ?_
 unfold a1w at h
 unfold c3M
 refine m7 I Tryz.zeroValue103 (cs := [(vi 0), (eS), (vi 0), (vi 0), (vi 0)]) rfl fun k bf ah bg => ?_
 have hj1 : ∀ (m : b5) (q9 : ByteArray) (r7 : Int) (u2 : b9) (B0 : (List b5)) (K5 : Frag) H w (_ : RowL 103 5 d8 e B0 K5) (_ : Inv w0 ps0 H0 H [bx k 103 (d8 m), bx g0 155 [(Value.string q9), (vi r7), (vi u2.v7), (vi u2.C8), (vs e)], K5] w) (_ : V3 m q9 r7 u2 B0 H K), b1F (Value.pointer (some ⟨g0, 0, none⟩)) (Value.pointer (some ⟨k, 0, none⟩)) w R E := by
  intro m q9 r7 u2 B0 K5 H w a2q I h
  unfold b1F
  intro _
  unfold V3 at h
  refine g8 Tryz.call135 (h g0 e K5 a2q) ((I.bring 2).bring 2) ?_
  rintro _ _ _ bh ai _ _ ⟨f, rfl, rfl, h⟩
  obtain ⟨aj, ak, h⟩ := h
  refine a7 (b5o f Tryz.underlying9 aj ak) ?_
  refine g8 Tryz.call152 (h g0 e K5 a2q) ((ai.bring 1).bring 1) ?_
  rintro _ r _ bi t _ _ ⟨u, v, y, z, rfl, rfl, aa, h⟩
  refine a7 (R5 _ _ _ _ _) ?_
  simp only [C9]
  refine a7 (Pu.g fun c => by simp only [m6 c]; with_reducible exact (R5 _ _ _ _ _)) ?_
  refine a7 (L0 _ _) ?_
  refine m8 h (fun _ h => ?_) (fun _ h => ?_)
  ·refine a7 (b0E ) ?_
   refine g6 (t.bring 2) Tryz.sizeOf103 (vs := [(vi 0), (eS), (vi 0), (vi 0), (vi 0)]) (cs' := [(vi 0), (eS), (vi 0), (vi 0), (vi 0)]) rfl rfl (nb rfl) rfl rfl fun bj ab bk => ?_
   refine u1 Tryz.isAgg103 Tryz.sizeOf103 rfl (ab.at1 (o := 0) (vs := [(vi 0), (eS), (vi 0), (vi 0), (vi 0)]) (nb rfl) rfl) ?_
   exact hR _ r _ _ ((ab.drop.bring 1).bring 1) ⟨(b5.mk 0 ⟨#[]⟩ 0 (b9.mk 0 0)), 20, (p6 u), v, y, z, rfl, rfl, aa, h⟩
  ·refine a7 (a3X _ _) ?_
   refine g6 (t.bring 2) Tryz.sizeOf103 (vs := [(vi 4), (Value.string (f.extract 0 (1 : Int).toNat)), (vi 0), (vi 0), (vi 0)]) (cs' := [(vi 4), (Value.string (f.extract 0 (1 : Int).toNat)), (vi 0), (vi 0), (vi 0)]) rfl rfl (nb rfl) rfl rfl fun bl ac bm => ?_
   refine u1 Tryz.isAgg103 Tryz.sizeOf103 rfl (ac.at1 (o := 0) (vs := [(vi 4), (Value.string (f.extract 0 (1 : Int).toNat)), (vi 0), (vi 0), (vi 0)]) (nb rfl) rfl) ?_
   exact hR _ r _ _ ((ac.drop.bring 1).bring 1) ⟨(b5.mk 4 (f.extract 0 (1 : Int).toNat) 0 (b9.mk 0 0)), 0, (p6 u), v, y, z, rfl, rfl, aa, h⟩
 refine u7 fun j1 hx1 => ?_
 refine a7 (a7t _ _ _ _ _ _) ?_
 obtain ⟨p, i, al, am⟩ := h
 refine E8 (J := fun n l w => ∃ (s : Int × b5 × ByteArray × Int × b9 × (List b5)) (H : Hp) (C2 : Frag) , n = i s ∧ l = (match s with | (A5, d, m9, o0, l9, m1) => [(vi A5)]) ∧ (match s with | (A5, d, m9, o0, l9, m1) => RowL 103 5 d8 e m1 C2) ∧ (match s with | (A5, d, m9, o0, l9, m1) => Inv w0 ps0 H0 H [bx k 103 (d8 d), bx g0 155 [(Value.string m9), (vi o0), (vi l9.v7), (vi l9.C8), (vs e)], C2] w) ∧ p s H) ⟨_, (0, (b5.mk 0 ⟨#[]⟩ 0 (b9.mk 0 0)), x0.fs, x0.fn, x0.fat, j), H, af, rfl, rfl, ag, (((ah.bring 2).bring 2).bring 2), al⟩ ?_
 rintro bn bo w next2 ⟨⟨A5, d, m9, o0, l9, m1⟩, H, C2, rfl, q, O0, I, an⟩ hn2
 dsimp only at q I O0
 simp only [List.map_cons, List.map_nil, List.cons.injEq, and_true] at q
 have e8 := q
 simp only [e8]
 obtain ⟨n2, hm2, h⟩ : ∃ n2 : (Int × b5 × ByteArray × Int × b9 × (List b5)) → Hp → Prop, (∀ s' H', n2 s' H' → p s' H' ∧ i s' < i (A5, d, m9, o0, l9, m1)) ∧ V4 (L4.mk ⟨#[61, 61]⟩ ⟨#[33, 61]⟩ ⟨#[60, 61]⟩ ⟨#[62, 61]⟩ ⟨#[38, 38]⟩ ⟨#[124, 124]⟩) A5 d m9 o0 l9 m1 H n2 K := ⟨_, fun _ _ h => h, am (A5, d, m9, o0, l9, m1) H (fun s' H' => p s' H' ∧ i s' < i (A5, d, m9, o0, l9, m1)) an (fun _ _ a b => ⟨a, b⟩)⟩
 unfold b5A
 unfold V4 at h
 refine a7 pLs ?_
 refine j9 h (fun _ h => ?_) (fun _ h => ?_)
 ·obtain ⟨ao, ap, h⟩ := h
  refine a7 (b6w _ _ _ _ _ _ _ _ ao ap) ?_
  refine g8 Tryz.call135 (h g0 e C2 O0) ((I.bring 2).bring 2) ?_
  rintro _ _ _ bp aq _ _ ⟨bq, rfl, rfl, h⟩
  refine g8 Tryz.call134 h aq ?_
  rintro _ ar _ br ad _ _ ⟨bs, rfl, rfl, h⟩
  refine m8 h (fun _ h => ?_) (fun _ h => ?_)
  ·refine g8 Tryz.call152 (h g0 e C2 O0) ((ad.bring 1).bring 1) ?_
   rintro _ _ _ bt au _ _ ⟨bu, bv, av, aw, rfl, rfl, ax, h⟩
   refine g8 Tryz.call152 (h g0 av aw ax) ((au.bring 1).bring 1) ?_
   rintro _ ay _ bw az _ _ ⟨ba, bb, bc, bd, rfl, rfl, be, h⟩
   refine a7 (a3X _ _) ?_
   refine g6 (az.bring 2) Tryz.sizeOf103 (vs := [(vi 4), (Value.string (([(L4.mk ⟨#[61, 61]⟩ ⟨#[33, 61]⟩ ⟨#[60, 61]⟩ ⟨#[62, 61]⟩ ⟨#[38, 38]⟩ ⟨#[124, 124]⟩).f0, (L4.mk ⟨#[61, 61]⟩ ⟨#[33, 61]⟩ ⟨#[60, 61]⟩ ⟨#[62, 61]⟩ ⟨#[38, 38]⟩ ⟨#[124, 124]⟩).f1, (L4.mk ⟨#[61, 61]⟩ ⟨#[33, 61]⟩ ⟨#[60, 61]⟩ ⟨#[62, 61]⟩ ⟨#[38, 38]⟩ ⟨#[124, 124]⟩).f2, (L4.mk ⟨#[61, 61]⟩ ⟨#[33, 61]⟩ ⟨#[60, 61]⟩ ⟨#[62, 61]⟩ ⟨#[38, 38]⟩ ⟨#[124, 124]⟩).f3, (L4.mk ⟨#[61, 61]⟩ ⟨#[33, 61]⟩ ⟨#[60, 61]⟩ ⟨#[62, 61]⟩ ⟨#[38, 38]⟩ ⟨#[124, 124]⟩).f4, (L4.mk ⟨#[61, 61]⟩ ⟨#[33, 61]⟩ ⟨#[60, 61]⟩ ⟨#[62, 61]⟩ ⟨#[38, 38]⟩ ⟨#[124, 124]⟩).f5] : List ByteArray).getD (A5 : Int).toNat ⟨#[]⟩)), (vi 0), (vi 0), (vi 0)]) (cs' := [(vi 4), (Value.string (([(L4.mk ⟨#[61, 61]⟩ ⟨#[33, 61]⟩ ⟨#[60, 61]⟩ ⟨#[62, 61]⟩ ⟨#[38, 38]⟩ ⟨#[124, 124]⟩).f0, (L4.mk ⟨#[61, 61]⟩ ⟨#[33, 61]⟩ ⟨#[60, 61]⟩ ⟨#[62, 61]⟩ ⟨#[38, 38]⟩ ⟨#[124, 124]⟩).f1, (L4.mk ⟨#[61, 61]⟩ ⟨#[33, 61]⟩ ⟨#[60, 61]⟩ ⟨#[62, 61]⟩ ⟨#[38, 38]⟩ ⟨#[124, 124]⟩).f2, (L4.mk ⟨#[61, 61]⟩ ⟨#[33, 61]⟩ ⟨#[60, 61]⟩ ⟨#[62, 61]⟩ ⟨#[38, 38]⟩ ⟨#[124, 124]⟩).f3, (L4.mk ⟨#[61, 61]⟩ ⟨#[33, 61]⟩ ⟨#[60, 61]⟩ ⟨#[62, 61]⟩ ⟨#[38, 38]⟩ ⟨#[124, 124]⟩).f4, (L4.mk ⟨#[61, 61]⟩ ⟨#[33, 61]⟩ ⟨#[60, 61]⟩ ⟨#[62, 61]⟩ ⟨#[38, 38]⟩ ⟨#[124, 124]⟩).f5] : List ByteArray).getD (A5 : Int).toNat ⟨#[]⟩)), (vi 0), (vi 0), (vi 0)]) rfl rfl (nb rfl) rfl rfl fun bz ae ca => ?_
   refine u1 Tryz.isAgg103 Tryz.sizeOf103 rfl (ae.at1 (o := 0) (vs := [(vi 4), (Value.string (([(L4.mk ⟨#[61, 61]⟩ ⟨#[33, 61]⟩ ⟨#[60, 61]⟩ ⟨#[62, 61]⟩ ⟨#[38, 38]⟩ ⟨#[124, 124]⟩).f0, (L4.mk ⟨#[61, 61]⟩ ⟨#[33, 61]⟩ ⟨#[60, 61]⟩ ⟨#[62, 61]⟩ ⟨#[38, 38]⟩ ⟨#[124, 124]⟩).f1, (L4.mk ⟨#[61, 61]⟩ ⟨#[33, 61]⟩ ⟨#[60, 61]⟩ ⟨#[62, 61]⟩ ⟨#[38, 38]⟩ ⟨#[124, 124]⟩).f2, (L4.mk ⟨#[61, 61]⟩ ⟨#[33, 61]⟩ ⟨#[60, 61]⟩ ⟨#[62, 61]⟩ ⟨#[38, 38]⟩ ⟨#[124, 124]⟩).f3, (L4.mk ⟨#[61, 61]⟩ ⟨#[33, 61]⟩ ⟨#[60, 61]⟩ ⟨#[62, 61]⟩ ⟨#[38, 38]⟩ ⟨#[124, 124]⟩).f4, (L4.mk ⟨#[61, 61]⟩ ⟨#[33, 61]⟩ ⟨#[60, 61]⟩ ⟨#[62, 61]⟩ ⟨#[38, 38]⟩ ⟨#[124, 124]⟩).f5] : List ByteArray).getD (A5 : Int).toNat ⟨#[]⟩)), (vi 0), (vi 0), (vi 0)]) (nb rfl) rfl) ?_
   exact hR _ ay _ _ ((ae.drop.bring 1).bring 1) ⟨(b5.mk 4 (([(L4.mk ⟨#[61, 61]⟩ ⟨#[33, 61]⟩ ⟨#[60, 61]⟩ ⟨#[62, 61]⟩ ⟨#[38, 38]⟩ ⟨#[124, 124]⟩).f0, (L4.mk ⟨#[61, 61]⟩ ⟨#[33, 61]⟩ ⟨#[60, 61]⟩ ⟨#[62, 61]⟩ ⟨#[38, 38]⟩ ⟨#[124, 124]⟩).f1, (L4.mk ⟨#[61, 61]⟩ ⟨#[33, 61]⟩ ⟨#[60, 61]⟩ ⟨#[62, 61]⟩ ⟨#[38, 38]⟩ ⟨#[124, 124]⟩).f2, (L4.mk ⟨#[61, 61]⟩ ⟨#[33, 61]⟩ ⟨#[60, 61]⟩ ⟨#[62, 61]⟩ ⟨#[38, 38]⟩ ⟨#[124, 124]⟩).f3, (L4.mk ⟨#[61, 61]⟩ ⟨#[33, 61]⟩ ⟨#[60, 61]⟩ ⟨#[62, 61]⟩ ⟨#[38, 38]⟩ ⟨#[124, 124]⟩).f4, (L4.mk ⟨#[61, 61]⟩ ⟨#[33, 61]⟩ ⟨#[60, 61]⟩ ⟨#[62, 61]⟩ ⟨#[38, 38]⟩ ⟨#[124, 124]⟩).f5] : List ByteArray).getD (A5 : Int).toNat ⟨#[]⟩) 0 (b9.mk 0 0)), 0, (p6 ba), bb, bc, bd, rfl, rfl, be, h⟩
  ·refine a7 pAd ?_
   exact hn2 _ _ _ (hm2 _ _ h).2 ⟨((IntKind.wrap .i64 (A5 + 1)), d, m9, o0, l9, m1), ar, C2, rfl, rfl, O0, (((ad.bring 1).bring 1).bring 2), (hm2 _ _ h).1⟩
 ·exact hx1 _ _ (hj1 d m9 o0 l9 m1 C2 H _ O0 (((I.bring 2).bring 2).bring 2) h)
def a2R (x0 : f8) (H : Hp) (K : d7 → Hp → Prop) : Prop :=
 K (d7.L2 (R1.mk x0)) H
theorem a8c (x0) {H K} (h : a2R x0 H K) : a5d x0 H K := by
 refine Ct.of fun w0 w ps0 H0 R E I hR => c1v ?_
 unfold a2R at h
 unfold c4i
 refine Y0 I (cs := (g9 x0)) rfl fun b c a d => ?_
 refine g7 (lW Tryz.isAgg49 Tryz.sizeOf49 rfl a) (a7 (b3z _ _ _ _ _ _ _ _) (a7 (b1n (R1.mk x0)) ?_))
 exact hR _ H _ _ a.drop ⟨(d7.L2 (R1.mk x0)), rfl, rfl, h⟩
def a1X (x0 : U5) (H : Hp) (K : Bool → Hp → Prop) : Prop :=
 K ((decide (0 ≤ x0.V1.a3u)) && (decide (x0.V1.a3u ≤ 2147483647))) H
theorem a7g (x0) {H K} (h : a1X x0 H K) : a4g x0 H K := by
 refine Ct.of fun w0 w ps0 H0 R E I hR => c1w ?_
 unfold a1X at h
 unfold c4j
 refine Y0 I (cs := (z6 x0.V1)) rfl fun c d b e => ?_
 refine a7 a7u (a7 a7S (g7 (l1 Tryz.isAgg3 b rfl) (a7 pGe ?_)))
 refine a7 (Pu.g fun a => by with_reducible exact a7u) ?_
 refine a7 (Pu.g fun a => by simp only [m6 a]; with_reducible exact a7S) ?_
 refine g7 (Ld.g fun a => by simp only [m6 a]; exact (l1 Tryz.isAgg3 b rfl)) ?_
 refine a7 (Pu.g fun a => by simp only [m6 a]; with_reducible exact pLe) ?_
 refine a7 (I0 _ _) ?_
 exact hR _ H _ _ b.drop ⟨((decide (0 ≤ x0.V1.a3u)) && (decide (x0.V1.a3u ≤ 2147483647))), rfl, rfl, h⟩
def a1x (x0 : R3) (H : Hp) (K : Sl → Hp → Prop) : Prop :=
 C4 x0.i7.z7 H (fun d e =>
 y8 x0.i7.l8 e (fun f g =>
 y6 x0.i7.M3 g (fun i j =>
 y6 x0.i7.L6 j (fun k l =>
 ∀ (a : Sl) (b : Hp), Hle l b → SlH b 1 csl a [d, f, i, k] → a.n ≤ a.c →
 C0 a b (fun m o =>
 K m o)))))
theorem a6T (x0) {H K} (h : a1x x0 H K) : a3G x0 H K := by
 refine Ct.of fun w0 w ps0 H0 R E I hR => c1z ?_
 unfold a1x at h
 unfold c4m
 refine Y0 I (cs := (s7 x0.i7)) rfl fun ad ae i af => ?_
 refine U3 i fun ag a => ?_
 refine o8 M0 ?_
 refine o8 a3U ?_
 refine o8 M0 ?_
 refine o8 a2g ?_
 refine o8 M0 ?_
 refine o8 a6t ?_
 refine o8 M0 ?_
 refine o8 a6u ?_
 refine A0 (l1 Tryz.isAgg47 a rfl) ?_
 refine A0 (l1 Tryz.isAgg38 a rfl) ?_
 refine A0 (l1 Tryz.isAgg24 a rfl) ?_
 refine A0 (l1 Tryz.isAgg24 a rfl) ?_
 refine g8 Tryz.call211 h a ?_
 rintro _ _ _ ah b _ d ⟨j, rfl, rfl, h⟩
 refine ⟨(d _ a.lt1 (Inv.Y1 (Fi := []) a)), (d _ a.lt1 (Inv.Y1 (Fi := []) a)), (d _ a.lt1 (Inv.Y1 (Fi := []) a)), ?_⟩
 refine g8 Tryz.call207 h b ?_
 rintro _ _ _ ai f _ g ⟨k, rfl, rfl, h⟩
 refine ⟨(g _ b.lt1 (Inv.Y1 (Fi := []) b)), (g _ b.lt1 (Inv.Y1 (Fi := []) b)), ?_⟩
 refine g8 Tryz.call78 h f ?_
 rintro _ _ _ aj l _ m ⟨n, rfl, rfl, h⟩
 refine ⟨(m _ f.lt1 (Inv.Y1 (Fi := []) f)), ?_⟩
 refine g8 Tryz.call78 h l ?_
 rintro _ _ _ ak o _ _ ⟨p, rfl, rfl, h⟩
 refine U4 (e := 128) (c := csl) (xs := [j, k, n, p]) o (b8M _ _ _ _ _ _ _ _ _ _ _ _) rfl rfl b3c b3d (nb rfl) fun q al am r s an => ?_
 obtain ⟨t, u, v, y, z⟩ := Inv.freezeC s r (by decide)
 replace h := h q t v y z
 refine g8 Tryz.call75 h u ?_
 rintro _ aa _ ao ab _ _ ⟨ac, rfl, rfl, h⟩
 exact hR _ aa _ _ ab.drop ⟨ac, rfl, rfl, h⟩
end Go.Proofs.YthklmeihgmcljaaGreatDoor
