/- Typed formulas of the program's functions, and the theorems that the contracts follow from them; printed by lift.py off the code. -/
import Derived.Test.YthklmeihgmcljaaGreatDoorzNV1
namespace Go.Proofs.YthklmeihgmcljaaGreatDoor
open Go.RowKit
set_option maxRecDepth 100000
set_option maxHeartbeats 2000000
def U9 (t8 : b8) (a : d7) (b : d7) (H : Hp) (K : d7 → b8 → Hp → Prop) : Prop :=
 K a t8 H
def P6 (a3I : Int) (E8 : Int) (m9 : b8) (d : d7) (e : d7) (H : Hp) (n2 : (Int × b8 × d7 × d7) → Hp → Prop) (K : d7 → b8 → Hp → Prop) : Prop :=
 (¬ (E8 = 0) →
 X1 (b8.mk m9.fl (IntKind.wrap .i64 (m9.fat + 1)) m9.fbad m9.fpos) a3I H (fun g f i =>
 L6 f i (fun j k =>
 ∀ (a : Sl) (b : Hp), Hle k b → SlH b 4 f9 a [d, g] → a.n ≤ a.c →
 n2 (j, f, (d7.mk E8 0 ⟨#[]⟩ a), e) b))) ∧
 (E8 = 0 →
 U9 m9 d e H K)
def X4 (x0 : b8) (x1 : Int) (H : Hp) (K : d7 → b8 → Hp → Prop) : Prop :=
 X1 x0 x1 H (fun b a c =>
 L6 a c (fun d e =>
 TL ((d, a, b, (d7.mk 0 0 ⟨#[]⟩ (Sl.mk none 0 0))) : Int × b8 × d7 × d7) e fun (s : Int × b8 × d7 × d7) H n2 => P6 x1 s.1 s.2.1 s.2.2.1 s.2.2.2 H n2 K))
theorem a4N (x0 x1) {H K} (h : X4 x0 x1 H K) : S1 x0 x1 H K := by
 intro g0
 refine Ct.of fun w0 w ps0 H0 R E I hR => c2R ?_
 unfold X4 at h
 unfold F83
 refine p8 I Tryz.zeroValue40 (cs := [(vi 0), (vi 0), (eS), (nS)]) rfl fun m ba z bb => ?_
 refine g8 Tryz.call123 (h g0) (z.bring 1) ?_
 rintro _ bc _ bd aa _ _ ⟨p, ab, rfl, rfl, h⟩
 refine p8 aa Tryz.zeroValue40 (cs := [(vi 0), (vi 0), (eS), (nS)]) rfl fun q be ac bf => ?_
 refine g7 ac Tryz.sizeOf40 (vs := (f9 p)) (cs' := (f9 p)) rfl rfl (nb rfl) rfl rfl fun bg ad bh => ?_
 have hj1 : ∀ (t8 : b8) (g : d7) (r : d7) H w (_ : Inv w0 ps0 H0 H [bx g0 66 (l0 t8), bx q 40 (f9 g), bx m 40 (f9 r)] w) (_ : U9 t8 g r H K), b3N (Value.pointer (some ⟨m, 0, none⟩)) (Value.pointer (some ⟨q, 0, none⟩)) w R E := by
  intro t8 g r H w I h
  unfold b3N
  intro _
  unfold U9 at h
  refine g9 (lW Tryz.isAgg40 Tryz.sizeOf40 rfl (I.bring 1)) ?_
  refine g7 (I.bring 2) Tryz.sizeOf40 (vs := (f9 g)) (cs' := (f9 g)) rfl rfl (nb rfl) rfl rfl fun bi v bj => ?_
  refine y2 Tryz.isAgg40 Tryz.sizeOf40 rfl (v.at1 (o := 0) (vs := (f9 g)) (nb rfl) rfl) ?_
  exact hR _ H _ _ (v.drop.bring 1).drop ⟨g, t8, rfl, rfl, h⟩
 refine v8 fun j1 hx1 => ?_
 refine g8 Tryz.call124 (h g0) (ad.bring 1) ?_
 rintro _ ae _ bk af _ _ ⟨ag, rfl, rfl, h⟩
 obtain ⟨t, i, ah, ai⟩ := h
 refine E9 (J := fun n l w => ∃ (s : Int × b8 × d7 × d7) (H : Hp) , n = i s ∧ l = (match s with | (E8, m9, d, f) => [(vi E8)]) ∧ (match s with | (E8, m9, d, f) => Inv w0 ps0 H0 H [bx g0 66 (l0 m9), bx q 40 (f9 d), bx m 40 (f9 f)] w) ∧ t s H) ⟨_, (ag, ab, p, (d7.mk 0 0 ⟨#[]⟩ (Sl.mk none 0 0))), ae, rfl, rfl, (((af.bring 2).bring 2).bring 2), ah⟩ ?_
 rintro bl bm w next2 ⟨⟨E8, m9, d, f⟩, H, rfl, u, I, aj⟩ hn2
 dsimp only at u I
 simp only [List.map_cons, List.map_nil, List.cons.injEq, and_true] at u
 have e6 := u
 simp only [e6]
 obtain ⟨n2, hm2, h⟩ : ∃ n2 : (Int × b8 × d7 × d7) → Hp → Prop, (∀ s' H', n2 s' H' → t s' H' ∧ i s' < i (E8, m9, d, f)) ∧ P6 x1 E8 m9 d f H n2 K := ⟨_, fun _ _ h => h, ai (E8, m9, d, f) H (fun s' H' => t s' H' ∧ i s' < i (E8, m9, d, f)) aj (fun _ _ a b => ⟨a, b⟩)⟩
 unfold b7E
 unfold P6 at h
 refine b5 pNe ?_
 refine a6H h (fun _ h => ?_) (fun _ h => ?_)
 ·refine b5 (s9 _) (b5 a2M (g9 (l1 Tryz.isAgg3 I rfl) (b5 pAd (b5 (s9 _) ?_))))
  refine b5 a2M ?_
  refine g7 I Tryz.sizeOf3 (vs := [(vi (IntKind.wrap .i64 (m9.fat + 1)))]) (cs' := [(vs m9.fl), (vi (IntKind.wrap .i64 (m9.fat + 1))), (vi m9.fbad), (vi m9.fpos.A6), (vi m9.fpos.E7)]) rfl rfl (nb rfl) rfl rfl fun bn ak bo => ?_
  refine V7 ak fun bp j => ?_
  refine C7 (lW Tryz.isAgg40 Tryz.sizeOf40 rfl (j.bring 1)) ?_
  refine g8 Tryz.call123 (h g0) j ?_
  rintro _ _ _ bq al _ am ⟨an, ao, rfl, rfl, h⟩
  refine ⟨(am _ (j.bring 1).lt1 (Inv.Y1 (Fi := [bx g0 66 [(vs m9.fl), (vi (IntKind.wrap .i64 (m9.fat + 1))), (vi m9.fbad), (vi m9.fpos.A6), (vi m9.fpos.E7)]]) ((j.bring 1).bring 1))), ?_⟩
  refine U7 (e := 40) (c := f9) (xs := [d, an]) al (a9g _ _ _ _ _ _ _ _ _ _ _ _) rfl rfl M5 M6 (nb rfl) fun k br bs ap aq bt => ?_
  refine p7 (a4t _ _ _ _) ?_
  refine g7 (aq.bring 2) Tryz.sizeOf40 (vs := [(vi E8), (vi 0), (eS), (vs k)]) (cs' := [(vi E8), (vi 0), (eS), (vs k)]) rfl rfl (nb rfl) rfl rfl fun bu ar bv => ?_
  refine g8 Tryz.call124 (h g0) (ar.bring 2) ?_
  rintro _ _ _ bw au _ _ ⟨av, rfl, rfl, h⟩
  obtain ⟨y, aw, ax, ay, az⟩ := Inv.freezeC (au.bring 2) ap (by decide)
  replace h := h k y ax ay az
  exact hn2 _ _ _ (hm2 _ _ h).2 ⟨(av, ao, (d7.mk E8 0 ⟨#[]⟩ k), f), y, rfl, rfl, (((aw.bring 2).bring 2).bring 2), (hm2 _ _ h).1⟩
 ·exact hx1 _ _ (hj1 m9 d f H _ (((I.bring 2).bring 2).bring 2) h)
def a2P (x0 : l8) (H : Hp) (K : d8 → Hp → Prop) : Prop :=
 K (d8.K0 (U3.mk x0)) H
theorem a8a (x0) {H K} (h : a2P x0 H K) : a5a x0 H K := by
 refine Ct.of fun w0 w ps0 H0 R E I hR => c2M ?_
 unfold a2P at h
 unfold F77
 refine a0p I (cs := (A0 x0)) rfl fun b c a d => ?_
 refine g9 (lW Tryz.isAgg68 Tryz.sizeOf68 rfl a) (b5 (b3s _ _) (b5 (b1l (U3.mk x0)) ?_))
 exact hR _ H _ _ a.drop ⟨(d8.K0 (U3.mk x0)), rfl, rfl, h⟩
def a2Q (x0 : g5) (H : Hp) (K : d8 → Hp → Prop) : Prop :=
 K (d8.F0 (R4.mk x0)) H
theorem a8b (x0) {H K} (h : a2Q x0 H K) : a5b x0 H K := by
 refine Ct.of fun w0 w ps0 H0 R E I hR => c2O ?_
 unfold a2Q at h
 unfold F79
 refine a0p I (cs := (t7 x0)) rfl fun b c a d => ?_
 refine g9 (lW Tryz.isAgg56 Tryz.sizeOf56 rfl a) (b5 (b3t _ _ _ _ _ _ _ _ _ _ _ _ _ _) (b5 (b1m (R4.mk x0)) ?_))
 exact hR _ H _ _ a.drop ⟨(d8.F0 (R4.mk x0)), rfl, rfl, h⟩
def D6 (c7T : Sl) (b1Q : Int) (c7U : Sl) (c7R : Int) (c5x : Int) (H : Hp) (n4 : (Int × Int) → Hp → Prop) (K : Sl → Hp → Prop) : Prop :=
 n4 (b1Q, (IntKind.wrap .i64 (c5x + 1))) H
def D7 (b0F : (List d8)) (H : Hp) (K : Sl → Hp → Prop) : Prop :=
 ∀ (a5N : Sl) (a : Hp), Hle H a → SlH a 1 u0 a5N b0F → a5N.n ≤ a5N.c →
 K a5N a
def D8 (b9P : Sl) (b9Q : Int) (a2R : (List d8)) (a2A : Int) (H : Hp) (n3 : ((List d8) × Int) → Hp → Prop) (K : Sl → Hp → Prop) : Prop :=
 (a2A < b9Q →
 (0 : Int) ≤ a2A ∧ (a2A : Int) < b9P.n ∧ ∃ b : Sl, EltH H b9P a2A 1 [(vs b)] ∧
 ∃ a : List d8, SlH H 1 u0 b a ∧ (a2R.length + a.length) * 17 ≤ 140737488355328 ∧
 n3 ((a2R ++ a), (IntKind.wrap .i64 (a2A + 1))) H) ∧
 (¬ (a2A < b9Q) →
 D7 a2R H K)
def D9 (b6B : Sl) (a7Z : Int) (H : Hp) (K : Sl → Hp → Prop) : Prop :=
 Q8 a7Z H (fun a b =>
 TL ((a, 0) : (List d8) × Int) b fun (s : (List d8) × Int) H n3 => D8 b6B (b6B.n : Int) s.1 s.2 H n3 K)
def E0 (b1O : Sl) (b3V : Sl) (a1K : Int) (a5f : Int) (a2h : Int) (H : Hp) (n4 : (Int × Int) → Hp → Prop) (K : Sl → Hp → Prop) : Prop :=
 (a2h < a1K →
 (0 : Int) ≤ a2h ∧ (a2h : Int) < b3V.n ∧ ∃ a : Sl, EltH H b3V a2h 1 [(vs a)] ∧
 ((IntKind.wrap .i64 (a5f + (a.n : Int))) < 0 →
 False) ∧
 (¬ ((IntKind.wrap .i64 (a5f + (a.n : Int))) < 0) →
 D6 b1O (IntKind.wrap .i64 (a5f + (a.n : Int))) b3V a1K a2h H n4 K)) ∧
 (¬ (a2h < a1K) →
 D9 b1O a5f H K)
def L4 (x0 : Sl) (H : Hp) (K : Sl → Hp → Prop) : Prop :=
 TL ((0, 0) : Int × Int) H fun (s : Int × Int) H n4 => E0 x0 x0 (x0.n : Int) s.1 s.2 H n4 K
theorem a1k (x0) {H K} (h : L4 x0 H K) : C3 x0 H K := by
 refine Ct.of fun w0 w ps0 H0 R E I hR => c2K ?_
 unfold L4 at h
 unfold F75
 have hj1 : ∀ (a7Z : Int) H w (_ : Inv w0 ps0 H0 H [] w) (_ : D9 x0 a7Z H K), b3I (vs x0) (vi a7Z) w R E := by
  intro a7Z H w I h
  unfold b3I
  intro _
  unfold D9 at h
  refine g8 Tryz.call120 h I ?_
  rintro _ p _ az q _ _ ⟨r, t, u, rfl, rfl, y, h⟩
  have hj2 : ∀ (b0F : (List d8)) (a5N : Sl) (Fs6j2 : Frag) H w (_ : RowL 131 1 u0 a5N b0F Fs6j2) (_ : Inv w0 ps0 H0 H [Fs6j2] w) (_ : D7 b0F H K), b3H (vs a5N) w R E := by
   intro b0F a5N Fs6j2 H w c5y I h
   unfold b3H
   intro _
   unfold D7 at h
   obtain ⟨m, z, aa, ab, ac⟩ := Inv.freezeC I c5y (by decide)
   replace h := h a5N m aa ab ac
   exact hR _ m _ _ z ⟨a5N, rfl, rfl, h⟩
  refine v8 fun j2 hx2 => ?_
  refine b5 (b0E _ _ _) ?_
  obtain ⟨e, c, ad, ae⟩ := h
  refine E9 (J := fun n l w => ∃ (s : (List d8) × Int) (H : Hp) (b0G : Sl) (Fs6l3 : Frag) , n = c s ∧ l = (match s with | (a2R, a2A) => [(vs b0G), (vi a2A)]) ∧ (match s with | (a2R, a2A) => RowL 131 1 u0 b0G a2R Fs6l3) ∧ (match s with | (a2R, a2A) => Inv w0 ps0 H0 H [Fs6l3] w) ∧ e s H) ⟨_, (r, 0), p, t, u, rfl, rfl, y, q, ad⟩ ?_
  rintro ba bb w next3 ⟨⟨a2R, a2A⟩, H, b0G, Fs6l3, rfl, f, b6C, I, af⟩ hn3
  dsimp only at f I b6C
  simp only [List.map_cons, List.map_nil, List.cons.injEq, and_true] at f
  obtain ⟨e6, e27⟩ := f
  simp only [e6, e27]
  obtain ⟨n3, hm3, h⟩ : ∃ n3 : ((List d8) × Int) → Hp → Prop, (∀ s' H', n3 s' H' → e s' H' ∧ c s' < c (a2R, a2A)) ∧ D8 x0 (x0.n : Int) a2R a2A H n3 K := ⟨_, fun _ _ h => h, ae (a2R, a2A) H (fun s' H' => e s' H' ∧ c s' < c (a2R, a2A)) af (fun _ _ a b => ⟨a, b⟩)⟩
  unfold b7z
  unfold D8 at h
  refine b5 pLs ?_
  refine k7 h (fun _ h => ?_) (fun _ h => ?_)
  ·obtain ⟨ag, ah, ai, g, h⟩ := h
   obtain ⟨bc, bd, aj, g⟩ := g
   refine b5 (b2m aj _ _ _ _ ag ah) (g9 (ld1 (v := (vs ai)) Tryz.isAgg128 (I.atH g)) ?_)
   obtain ⟨ak, al, h⟩ := h
   obtain ⟨am, h⟩ := h
   refine a7E (s := b0G) (xs := a2R) I b6C (SlH.src I al Q0) am fun an ao be ap aq bf => ?_
   refine b5 pAd ?_
   exact hn3 _ _ _ (hm3 _ _ h).2 ⟨((a2R ++ ak), (IntKind.wrap .i64 (a2A + 1))), H, an, ao, rfl, rfl, ap, aq, (hm3 _ _ h).1⟩
  ·exact hx2 _ _ (hj2 a2R b0G Fs6l3 H _ b6C I h)
 refine v8 fun j1 hx1 => ?_
 refine b5 (b0E _ _ _) ?_
 obtain ⟨i, d, ar, au⟩ := h
 refine E9 (J := fun n l w => ∃ (s : Int × Int) (H : Hp) , n = d s ∧ l = (match s with | (a5f, a2h) => [(vi a5f), (vi a2h)]) ∧ (match s with | (a5f, a2h) => Inv w0 ps0 H0 H [] w) ∧ i s H) ⟨_, (0, 0), H, rfl, rfl, I, ar⟩ ?_
 rintro bg bh w next4 ⟨⟨a5f, a2h⟩, H, rfl, j, I, av⟩ hn4
 dsimp only at j I
 simp only [List.map_cons, List.map_nil, List.cons.injEq, and_true] at j
 obtain ⟨e3, e11⟩ := j
 simp only [e3, e11]
 obtain ⟨n4, hm4, h⟩ : ∃ n4 : (Int × Int) → Hp → Prop, (∀ s' H', n4 s' H' → i s' H' ∧ d s' < d (a5f, a2h)) ∧ E0 x0 x0 (x0.n : Int) a5f a2h H n4 K := ⟨_, fun _ _ h => h, au (a5f, a2h) H (fun s' H' => i s' H' ∧ d s' < d (a5f, a2h)) av (fun _ _ a b => ⟨a, b⟩)⟩
 unfold b7A
 unfold E0 at h
 refine b5 pLs ?_
 refine k7 h (fun _ h => ?_) (fun _ h => ?_)
 ·have hj5 : ∀ (b1Q : Int) H w (_ : Inv w0 ps0 H0 H [] w) (_ : D6 x0 b1Q x0 (x0.n : Int) a2h H n4 K), b3J (vs x0) (vi b1Q) (vs x0) (vi (x0.n : Int)) (vi a2h) w next4 R E := by
   intro b1Q H w I h
   unfold b3J
   intro _
   unfold D6 at h
   refine b5 pAd ?_
   exact hn4 _ _ _ (hm4 _ _ h).2 ⟨(b1Q, (IntKind.wrap .i64 (a2h + 1))), H, rfl, rfl, I, (hm4 _ _ h).1⟩
  refine v8 fun j5 hx5 => ?_
  obtain ⟨aw, ax, o, k, h⟩ := h
  obtain ⟨bi, bj, ay, k⟩ := k
  refine b5 (b2m ay _ _ _ _ aw ax) (g9 (ld1 (v := (vs o)) Tryz.isAgg128 (I.atH k)) (b5 (a6v _ _ _) (b5 pAd (b5 pLs ?_))))
  refine k7 h (fun _ h => ?_) (fun _ h => ?_)
  ·refine b5 (b7q _) ?_
   exact h.elim
  ·exact hx5 _ _ (hj5 (IntKind.wrap .i64 (a5f + (o.n : Int))) H _ I h)
 ·exact hx1 _ _ (hj1 a5f H _ I h)
def a3K (x0 : d8) (H : Hp) (K : ByteArray → Bool → Hp → Prop) : Prop :=
 (x0.a3Q = true →
 K x0.W6.V1.B0 true H) ∧
 (x0.a3Q = false →
 (x0.a3R = true →
 K x0.r7.i8.B0 ((decide (x0.r7.i8.g6 = 1)) || (decide (x0.r7.i8.g6 = 2))) H) ∧
 (x0.a3R = false →
 (x0.a3P = true →
 K x0.C2.t6.B0 ((decide (x0.C2.t6.g6 = 2)) || (decide (x0.C2.t6.g6 = 4))) H) ∧
 (x0.a3P = false →
 K ⟨#[]⟩ false H)))
theorem a8L (x0) {H K} (h : a3K x0 H K) : a0B x0 H K := by
 refine Ct.of fun w0 w ps0 H0 R E I hR => c0N ?_
 unfold a3K at h
 unfold c3y
 refine b5 (b2N x0) (b5 (j8 _ _ (vB x0.a3Q) rfl) (b5 (j8 _ _ _ rfl) ?_))
 refine p5 h (fun _ h => ?_) (fun _ h => ?_)
 ·refine p8 I Tryz.zeroValue175 (cs := [(eS), (vi 0)]) rfl fun n o e q => ?_
  refine g7 e Tryz.sizeOf175 (vs := [(Value.string x0.W6.V1.B0), (vi x0.W6.V1.a3t)]) (cs' := [(Value.string x0.W6.V1.B0), (vi x0.W6.V1.a3t)]) rfl rfl (nb rfl) rfl rfl fun r d s => ?_
  refine b5 a7s (b5 b6p (g9 (l1 Tryz.isAgg9 d rfl) ?_))
  exact hR _ H _ _ d.drop ⟨x0.W6.V1.B0, true, rfl, rfl, h⟩
 ·refine b5 (b2O x0) (b5 (j8 _ _ (vB x0.a3R) rfl) (b5 (j8 _ _ _ rfl) ?_))
  refine p5 h (fun _ h => ?_) (fun _ h => ?_)
  ·refine p8 I Tryz.zeroValue177 (cs := [(vi 0), (eS), (nS), (nS), (nS), (nS)]) rfl fun f t i u => ?_
   refine g7 i Tryz.sizeOf177 (vs := [(vi x0.r7.i8.g6), (Value.string x0.r7.i8.B0), (vs x0.r7.i8.m5), (vs x0.r7.i8.A4), (vs x0.r7.i8.M2), (vs x0.r7.i8.L5)]) (cs' := [(vi x0.r7.i8.g6), (Value.string x0.r7.i8.B0), (vs x0.r7.i8.m5), (vs x0.r7.i8.A4), (vs x0.r7.i8.M2), (vs x0.r7.i8.L5)]) rfl rfl (nb rfl) rfl rfl fun v j y => ?_
   refine V7 j fun z b => ?_
   refine p7 L9 ?_
   refine p7 a4Z ?_
   refine p7 L9 ?_
   refine p7 a0r ?_
   refine C7 (l1 Tryz.isAgg9 b rfl) ?_
   refine C7 (l1 Tryz.isAgg3 b rfl) ?_
   refine p7 pEq ?_
   refine p7 (Pu.g fun a => by with_reducible exact L9) ?_
   refine p7 (Pu.g fun a => by simp only [o9 a]; with_reducible exact a0r) ?_
   refine c1Z (p := (Value.pointer (some ⟨f, 0, none⟩))) rfl (Ld.g fun a => by simp only [o9 a]; exact (l1 Tryz.isAgg3 b rfl)) ?_
   refine p7 (Pu.g fun a => by simp only [o9 a]; with_reducible exact pEq) ?_
   refine p7 (N5 _ _) ?_
   exact hR _ H _ _ b.drop ⟨x0.r7.i8.B0, ((decide (x0.r7.i8.g6 = 1)) || (decide (x0.r7.i8.g6 = 2))), rfl, rfl, h⟩
  ·refine b5 (b2P x0) (b5 (j8 _ _ (vB x0.a3P) rfl) (b5 (j8 _ _ _ rfl) ?_))
   refine p5 h (fun _ h => ?_) (fun _ h => ?_)
   ·refine p8 I Tryz.zeroValue141 (cs := [(vi 0), (vi 0), (eS), (nS)]) rfl fun k aa l ab => ?_
    refine g7 l Tryz.sizeOf141 (vs := [(vi x0.C2.t6.g6), (vi x0.C2.t6.T4), (Value.string x0.C2.t6.B0), (vs x0.C2.t6.P0)]) (cs' := [(vi x0.C2.t6.g6), (vi x0.C2.t6.T4), (Value.string x0.C2.t6.B0), (vs x0.C2.t6.P0)]) rfl rfl (nb rfl) rfl rfl fun ac m ad => ?_
    refine V7 m fun ae c => ?_
    refine p7 Y0 ?_
    refine p7 b0A ?_
    refine p7 Y0 ?_
    refine p7 a4W ?_
    refine C7 (l1 Tryz.isAgg9 c rfl) ?_
    refine C7 (l1 Tryz.isAgg3 c rfl) ?_
    refine p7 pEq ?_
    refine p7 (Pu.g fun a => by with_reducible exact Y0) ?_
    refine p7 (Pu.g fun a => by simp only [o9 a]; with_reducible exact a4W) ?_
    refine c1Z (p := (Value.pointer (some ⟨k, 0, none⟩))) rfl (Ld.g fun a => by simp only [o9 a]; exact (l1 Tryz.isAgg3 c rfl)) ?_
    refine p7 (Pu.g fun a => by simp only [o9 a]; with_reducible exact pEq) ?_
    refine p7 (N5 _ _) ?_
    exact hR _ H _ _ c.drop ⟨x0.C2.t6.B0, ((decide (x0.C2.t6.g6 = 2)) || (decide (x0.C2.t6.g6 = 4))), rfl, rfl, h⟩
   ·exact hR _ H _ _ I ⟨⟨#[]⟩, false, rfl, rfl, h⟩
def a4h (x0 : ByteArray) (H : Hp) (K : Bool → Hp → Prop) : Prop :=
 W3 x0 H (fun a b =>
 K (decide (32 < a)) b)
theorem a9F (x0) {H K} (h : a4h x0 H K) : a1b x0 H K := by
 refine Ct.of fun w0 w ps0 H0 R E I hR => c0V ?_
 unfold a4h at h
 unfold c3G
 refine g8 Tryz.call162 h I ?_
 rintro _ a _ d b _ _ ⟨c, rfl, rfl, h⟩
 refine b5 pGt ?_
 exact hR _ a _ _ b ⟨(decide (32 < c)), rfl, rfl, h⟩
def a2S (H : Hp) (K : Bool → Hp → Prop) : Prop :=
 K true H
def N8 (b : ByteArray) (a : Nat) (H : Hp) (n2 : Nat → Hp → Prop) (K : Bool → Hp → Prop) : Prop :=
 (a < b.size →
 a1G ((Utf8.decode b a).1 : Int) H (fun c d =>
 TG ((!(!c) && (decide (((a : Nat) : Int) = 0))) = true) (O9 ((Utf8.decode b a).1 : Int) d) 0 d (fun (e : Int) (f : Hp) =>
 (((!c) || ((decide (((a : Nat) : Int) = 0)) && (!decide (e = 3)))) = true →
 K false f) ∧
 (((!c) || ((decide (((a : Nat) : Int) = 0)) && (!decide (e = 3)))) = false →
 n2 (a + (Utf8.decode b a).2) f)))) ∧
 (¬ (a < b.size) →
 a2S H K)
def a4i (x0 : ByteArray) (H : Hp) (K : Bool → Hp → Prop) : Prop :=
 TG ((decide (x0 = ⟨#[]⟩)) = false) (a3d x0 H) false H (fun (a : Bool) (c : Hp) =>
 TG (((decide (x0 = ⟨#[]⟩)) || (!a)) = false) (a1b x0 c) false c (fun (b : Bool) (d : Hp) =>
 TG ((((decide (x0 = ⟨#[]⟩)) || (!a)) || b) = false) (Y9 x0 d) false d (fun (e : Bool) (f : Hp) =>
 (((((decide (x0 = ⟨#[]⟩)) || (!a)) || b) || e) = true →
 K false f) ∧
 (((((decide (x0 = ⟨#[]⟩)) || (!a)) || b) || e) = false →
 TL (0 : Nat) f fun (s : Nat) H n2 => N8 x0 s H n2 K))))
theorem a9G (x0) {H K} (h : a4i x0 H K) : a2z x0 H K := by
 refine Ct.of fun w0 w ps0 H0 R E I hR => c0O ?_
 unfold a4i at h
 unfold c3z
 refine b5 (R6 _ _ _ _ _) ?_
 simp only [D2]
 refine N6 (D := fun am z => ∃ (d : Bool) (q : Hp) , am = (gv (decide (x0 = ⟨#[]⟩)) false (vB d)) ∧ (Inv w0 ps0 H0 q [] z) ∧ (∀ i, i < w.heap.size → ¬ inF [] i → z.heap[i]? = w.heap[i]?) ∧ Hle H q ∧ (TG (((decide (x0 = ⟨#[]⟩)) || (!d)) = false) (a1b x0 q) false q (fun (m : Bool) (o : Hp) =>
 TG ((((decide (x0 = ⟨#[]⟩)) || (!d)) || m) = false) (Y9 x0 o) false o (fun (p : Bool) (f : Hp) =>
 (((((decide (x0 = ⟨#[]⟩)) || (!d)) || m) || p) = true →
 K false f) ∧
 (((((decide (x0 = ⟨#[]⟩)) || (!d)) || m) || p) = false →
 TL (0 : Nat) f fun (s : Nat) H n2 => N8 x0 s H n2 K))))) (fun t => ?_) (fun t => ?_) ?_
 ·replace h := h.1 t
  have c := t
  simp only [o9 c]
  refine g8 Tryz.call160 h I ?_
  rintro _ q _ z ad an ao ⟨d, rfl, rfl, h⟩
  exact ⟨d, q, by rfl, ad, ao, an, h⟩
 ·exact ⟨false, H, by rw [W9 t], I, fun _ _ _ => rfl, Hle.refl _, h.2 t⟩
 ·clear h
  rintro am z ⟨d, q, rfl, ad, ao, an, h⟩
  refine b5 (Pu.g fun c => by simp only [o9 c]; with_reducible exact (U5 _)) ?_
  refine b5 (N5 _ _) ?_
  simp only [D2]
  refine N6 (D := fun ap aa => ∃ (m : Bool) (o : Hp) , ap = (gv ((decide (x0 = ⟨#[]⟩)) || (!d)) false (vB m)) ∧ (Inv w0 ps0 H0 o [] aa) ∧ (∀ i, i < z.heap.size → ¬ inF [] i → aa.heap[i]? = z.heap[i]?) ∧ Hle q o ∧ (TG ((((decide (x0 = ⟨#[]⟩)) || (!d)) || m) = false) (Y9 x0 o) false o (fun (p : Bool) (f : Hp) =>
 (((((decide (x0 = ⟨#[]⟩)) || (!d)) || m) || p) = true →
 K false f) ∧
 (((((decide (x0 = ⟨#[]⟩)) || (!d)) || m) || p) = false →
 TL (0 : Nat) f fun (s : Nat) H n2 => N8 x0 s H n2 K)))) (fun u => ?_) (fun u => ?_) ?_
  ·replace h := h.1 u
   have c := u
   simp only [o9 c]
   refine g8 Tryz.call156 h ad ?_
   rintro _ o _ aa ae aq ar ⟨m, rfl, rfl, h⟩
   exact ⟨m, o, by rfl, ae, ar, aq, h⟩
  ·exact ⟨false, q, by rw [W9 u], ad, fun _ _ _ => rfl, Hle.refl _, h.2 u⟩
  ·clear h
   rintro ap aa ⟨m, o, rfl, ae, ar, aq, h⟩
   refine b5 (N5 _ _) ?_
   simp only [D2]
   refine N6 (D := fun au af => ∃ (p : Bool) (f : Hp) , au = (gv (((decide (x0 = ⟨#[]⟩)) || (!d)) || m) false (vB p)) ∧ (Inv w0 ps0 H0 f [] af) ∧ (∀ i, i < aa.heap.size → ¬ inF [] i → af.heap[i]? = aa.heap[i]?) ∧ Hle o f ∧ ((((((decide (x0 = ⟨#[]⟩)) || (!d)) || m) || p) = true →
 K false f) ∧
 (((((decide (x0 = ⟨#[]⟩)) || (!d)) || m) || p) = false →
 TL (0 : Nat) f fun (s : Nat) H n2 => N8 x0 s H n2 K))) (fun v => ?_) (fun v => ?_) ?_
   ·replace h := h.1 v
    have c := v
    simp only [o9 c]
    refine g8 Tryz.call155 h ae ?_
    rintro _ f _ af ag av aw ⟨p, rfl, rfl, h⟩
    exact ⟨p, f, by rfl, ag, aw, av, h⟩
   ·exact ⟨false, o, by rw [W9 v], ae, fun _ _ _ => rfl, Hle.refl _, h.2 v⟩
   ·clear h
    rintro au af ⟨p, f, rfl, ag, aw, av, h⟩
    refine b5 (N5 _ _) ?_
    refine p5 h (fun _ h => ?_) (fun _ h => ?_)
    ·exact hR _ f _ _ ag ⟨false, rfl, rfl, h⟩
    ·have hj1 : ∀ H w (_ : Inv w0 ps0 H0 H [] w) (_ : a2S H K), b1C w R E := by
      intro H w I h
      unfold b1C
      intro _
      unfold a2S at h
      exact hR _ H _ _ I ⟨true, rfl, rfl, h⟩
     refine v8 fun j1 hx1 => ?_
     refine a9e Tryz.underlying9 x0 ag fun ax bk be bl => ?_
     obtain ⟨aj, ac, bf, bg⟩ := h
     refine E9 (J := fun n l w => ∃ (s : Nat) (H : Hp) , n = ac s ∧ l = [] ∧ Inv w0 ps0 H0 H [itf ax x0 s] w ∧ aj s H) ⟨_, 0, f, rfl, rfl, be, bf⟩ ?_
     rintro bm bn w next2 ⟨j, H, rfl, bh, I, bi⟩ hn2
     clear bh
     obtain ⟨n2, hm2, h⟩ : ∃ n2 : Nat → Hp → Prop, (∀ s' H', n2 s' H' → aj s' H' ∧ ac s' < ac j) ∧ N8 x0 j H n2 K := ⟨_, fun _ _ h => h, bg j H (fun s' H' => aj s' H' ∧ ac s' < ac j) bi (fun _ _ a b => ⟨a, b⟩)⟩
     unfold b5u
     unfold N8 at h
     refine b0s I (fun ak bo bj bp => ?_) (fun ak => ?_)
     ·replace h := h.1 ak
      refine b5 (j8 _ _ (vB true) rfl) ?_
      refine a0H (fun e => ?_) (fun e => by cases e)
      refine b5 (j8 _ _ (vi ((j : Nat) : Int)) rfl) (b5 (j8 _ _ (Value.int .i32 ((Utf8.decode x0 j).1 : Int)) rfl) ?_)
      refine g8 Tryz.call154 h bj ?_
      rintro _ ay _ az ba _ _ ⟨al, rfl, rfl, h⟩
      refine b5 (U5 _) ?_
      simp only [D2]
      refine b5 (Pu.g fun c => by simp only [o9 c]; with_reducible exact pEq) ?_
      simp only [b0p, b7i]
      refine b9K (a1Y _ _ _) ?_
      refine N6 (D := fun bb ah => ∃ (ab : Int) (r : Hp) , bb = (gv (!(!al) && (decide (((j : Nat) : Int) = 0))) true (vi ab)) ∧ (Inv w0 ps0 H0 r [itf ax x0 (j + (Utf8.decode x0 j).2)] ah) ∧ (∀ i, i < az.heap.size → ¬ inF [] i → ah.heap[i]? = az.heap[i]?) ∧ Hle ay r ∧ ((((!al) || ((decide (((j : Nat) : Int) = 0)) && (!decide (ab = 3)))) = true →
 K false r) ∧
 (((!al) || ((decide (((j : Nat) : Int) = 0)) && (!decide (ab = 3)))) = false →
 n2 (j + (Utf8.decode x0 j).2) r))) (fun y => ?_) (fun y => ?_) ?_
      ·replace h := h.1 y
       obtain ⟨c, k⟩ := a4r y
       simp only [o9 y]
       refine g8 Tryz.call132 h ba ?_
       rintro _ r _ ah ai bc bd ⟨ab, rfl, rfl, h⟩
       exact ⟨ab, r, by rfl, ai, bd, bc, h⟩
      ·exact ⟨0, ay, by rw [W9 y], ba, fun _ _ _ => rfl, Hle.refl _, h.2 y⟩
      ·clear h
       rintro bb ah ⟨ab, r, rfl, ai, bd, bc, h⟩
       refine b5 (Pu.e (a1Y _ _ _) (Pu.g fun hb => by obtain ⟨c, k⟩ := a4r hb; simp only [o9 hb]; with_reducible exact pNe)) ?_
       refine b5 (Pu.g fun c => by simp only [o9 c, b0o c]; with_reducible exact (F6 _ _)) ?_
       refine b5 (N5 _ _) ?_
       refine p5 h (fun _ h => ?_) (fun _ h => ?_)
       ·exact hR _ r _ _ ai.drop ⟨false, rfl, rfl, h⟩
       ·exact hn2 _ _ _ (hm2 _ _ h).2 ⟨(j + (Utf8.decode x0 j).2), r, rfl, rfl, ai, (hm2 _ _ h).1⟩
     ·replace h := h.2 ak
      refine b5 (j8 _ _ (vB false) rfl) ?_
      refine a0H (fun e => by cases e) (fun e => ?_)
      exact hx1 _ _ (hj1 H _ I.drop h)
def a3p (x0 : l9) (H : Hp) (K : Int → Hp → Prop) : Prop :=
 a4g x0 H (fun a b =>
 K a.fe b)
theorem a8v (x0) {H K} (h : a3p x0 H K) : a1H x0 H K := by
 refine Ct.of fun w0 w ps0 H0 R E I hR => c2r ?_
 unfold a3p at h
 unfold F12
 refine a0p I (cs := (p9 x0)) rfl fun e f a g => ?_
 refine g9 (lW Tryz.isAgg26 Tryz.sizeOf26 rfl a) ?_
 refine g8 Tryz.call32 h a ?_
 rintro _ c _ i b _ _ ⟨d, j, rfl, rfl, h⟩
 refine b5 (s9 _) (b5 a4Y (g9 (l1 Tryz.isAgg29 b rfl) ?_))
 exact hR _ c _ _ b.drop.drop ⟨d.fe, rfl, rfl, h⟩
def a0T (x0 : b6) (H : Hp) (K : b7 → Hp → Prop) : Prop :=
 (0 : Int) ≤ x0.fn ∧ (x0.fn : Int) < x0.fl.n ∧ ∃ a : b7, EltH H x0.fl x0.fn 5 (d9 a) ∧
 K a H
theorem a6h (x0) {H K} (h : a0T x0 H K) : y8 x0 H K := by
 intro g0
 refine Ct.of fun w0 w ps0 H0 R E I hR => c2A ?_
 unfold a0T at h
 unfold F51
 refine p8 I Tryz.zeroValue103 (cs := [(vi 0), (eS), (vi 0), (vi 0), (vi 0)]) rfl fun j k e l => ?_
 refine V7 e fun m b => ?_
 refine p7 (s9 _) ?_
 refine p7 b4P ?_
 refine p7 (s9 _) ?_
 refine p7 a2p ?_
 refine C7 (l1 Tryz.isAgg61 (b.bring 1) rfl) ?_
 refine C7 (l1 Tryz.isAgg3 (b.bring 1) rfl) ?_
 obtain ⟨f, g, a, c, h⟩ := h
 obtain ⟨n, p, i, c⟩ := c
 refine p7 (b3i i _ _ _ _ f g) ?_
 refine C7 (ldA (vs := (d9 a)) Tryz.isAgg103 Tryz.sizeOf103 rfl (b.atH c)) ?_
 refine g7 b Tryz.sizeOf103 (vs := (d9 a)) (cs' := (d9 a)) rfl rfl (nb rfl) rfl rfl fun q d r => ?_
 refine y2 Tryz.isAgg103 Tryz.sizeOf103 rfl (d.at1 (o := 0) (vs := (d9 a)) (nb rfl) rfl) ?_
 exact hR _ H _ _ d.drop ⟨a, rfl, rfl, h⟩
def S9 [PanQ] (T0 : (List g5)) (t8 : b6) (H : Hp) (K : Sl → b6 → Hp → Prop) : Prop :=
 ∀ (D1 : Sl) (a : Hp), Hle H a → SlH a 6 t7 D1 T0 → D1.n ≤ D1.c →
 K D1 t8 a
def T1 [PanQ] (a3I : Int) (u6 : (List g5)) (m9 : b6) (H : Hp) (n2 : ((List g5) × b6) → Hp → Prop) (K : Sl → b6 → Hp → Prop) : Prop :=
 s7 m9 ⟨#[125]⟩ H (fun b a c =>
 ((!b) = true →
 L8 a c (fun e f =>
 B1 a (IntKind.wrap .i64 (a3I + 1)) e f (fun g =>
 R9 a (IntKind.wrap .i64 (a3I + 1)) g (fun d i j =>
 (u6.length + ([d] : List g5).length) * 121 ≤ 140737488355328 ∧
 n2 ((u6 ++ [d]), i) j)))) ∧
 ((!b) = false →
 S9 u6 a c K))
def a0E [PanQ] (x0 : b6) (x1 : Int) (H : Hp) (K : Sl → b6 → Hp → Prop) : Prop :=
 A7 x0 ⟨#[123]⟩ H (fun a b =>
 TL (([], a) : (List g5) × b6) b fun (s : (List g5) × b6) H n2 => T1 x1 s.1 s.2 H n2 K)
theorem a5Z [PanQ] (x0 : b6) (x1 : Int) {H : Hp} {K : Sl → b6 → Hp → Prop} (h : a0E x0 x1 H K) : R0 x0 x1 H K := by
 intro g0
 refine Ct.ofE fun w0 w ps0 H0 R E I hR hE => c0u ?_
 unfold a0E at h
 unfold c3f
 refine v7 hE Tryz.call103 (h g0) I ?_
 rintro _ o _ ao p _ _ ⟨q, rfl, rfl, h⟩
 have hj1 : ∀ (T0 : (List g5)) (t8 : b6) (D1 : Sl) (Fs5j1 : Frag) H w (_ : RowL 56 6 t7 D1 T0 Fs5j1) (_ : Inv w0 ps0 H0 H [bx g0 101 (b9 t8), Fs5j1] w) (_ : S9 T0 t8 H K), b1p (vs D1) w R E := by
  intro T0 t8 D1 Fs5j1 H w a6x I h
  unfold b1p
  intro _
  unfold S9 at h
  obtain ⟨i, r, t, u, v⟩ := Inv.freezeC (I.bring 1) a6x (by decide)
  replace h := h D1 i t u v
  exact hR _ i _ _ r ⟨D1, t8, rfl, rfl, h⟩
 refine v8 fun j1 hx1 => ?_
 obtain ⟨f, d, y, z⟩ := h
 refine E9 (J := fun n l w => ∃ (s : (List g5) × b6) (H : Hp) (T2 : Sl) (Fs5l2 : Frag) , n = d s ∧ l = (match s with | (u6, m9) => [(vs T2)]) ∧ (match s with | (u6, m9) => RowL 56 6 t7 T2 u6 Fs5l2) ∧ (match s with | (u6, m9) => Inv w0 ps0 H0 H [bx g0 101 (b9 m9), Fs5l2] w) ∧ f s H) ⟨_, ([], q), o, (Sl.mk none 0 0), [], rfl, rfl, (RowL.nil a4u a4v), (p.nil.bring 1), y⟩ ?_
 rintro ap aq w next2 ⟨⟨u6, m9⟩, H, T2, Fs5l2, rfl, g, a1h, I, aa⟩ hn2
 dsimp only at g I a1h
 simp only [List.map_cons, List.map_nil, List.cons.injEq, and_true] at g
 have e5 := g
 simp only [e5]
 obtain ⟨n2, hm2, h⟩ : ∃ n2 : ((List g5) × b6) → Hp → Prop, (∀ s' H', n2 s' H' → f s' H' ∧ d s' < d (u6, m9)) ∧ T1 x1 u6 m9 H n2 K := ⟨_, fun _ _ h => h, z (u6, m9) H (fun s' H' => f s' H' ∧ d s' < d (u6, m9)) aa (fun _ _ a b => ⟨a, b⟩)⟩
 unfold b5n
 unfold T1 at h
 refine g8 Tryz.call105 (h g0) I ?_
 rintro _ ab _ ar j _ _ ⟨au, ac, rfl, rfl, h⟩
 refine b5 (U5 _) ?_
 refine p5 h (fun _ h => ?_) (fun _ h => ?_)
 ·refine b5 pAd ?_
  refine g8 Tryz.call56 (h g0) j ?_
  rintro _ _ _ av ad _ _ ⟨aw, rfl, rfl, h⟩
  refine v7 hE Tryz.call55 (h g0) ad ?_
  rintro _ _ _ ax ae _ _ ⟨rfl, rfl, h⟩
  refine b5 pAd ?_
  refine v7 hE Tryz.call57 (h g0) ae ?_
  rintro _ af _ ay ag _ _ ⟨k, ah, rfl, rfl, h⟩
  refine U7 (e := 56) (c := t7) (xs := [k]) ag (b5i _ _ _ _ _ _ _ _ _ _ _ _ _ _) rfl rfl a4u a4v (nb rfl) fun az ba bb ai m bc => ?_
  obtain ⟨aj, h⟩ := h
  refine b7j (s := T2) (xs := u6) (m.bring 2) a1h (ai.srcO ((m.bring 2).bring 1)) aj fun ak al bd am an be => ?_
  exact hn2 _ _ _ (hm2 _ _ h).2 ⟨((u6 ++ [k]), ah), af, ak, al, rfl, rfl, am, ((an.bring 1).drop.bring 1), (hm2 _ _ h).1⟩
 ·exact hx1 _ _ (hj1 u6 ac T2 Fs5l2 ab _ a1h ((j.bring 1).bring 1) h)
def K6 [PanQ] (t8 : b6) (a : l8) (d : l8) (H : Hp) (K : l8 → b6 → Hp → Prop) : Prop :=
 A7 t8 ⟨#[59]⟩ H (fun b c =>
 K a b c)
def O6 [PanQ] (a3v : b6) (a : l8) (b : l8) (H : Hp) (K : l8 → b6 → Hp → Prop) : Prop :=
 M8 a3v H (fun c d e =>
 A7 d ⟨#[93]⟩ e (fun f g =>
 K6 f (l8.mk a.B0 c.T4) b g K))
def a3i [PanQ] (x0 : b6) (H : Hp) (K : l8 → b6 → Hp → Prop) : Prop :=
 i7 x0 ⟨#[97, 114, 114, 97, 121]⟩ H (fun d i =>
 a0L (b6.mk x0.fl (IntKind.wrap .i64 (x0.fn + 1))) 1 i (fun c e f =>
 (d = true →
 A7 e ⟨#[91]⟩ f (fun b j =>
 y8 b j (fun a g =>
 ((((!decide (a.g6 = 2)) || (decide (a.T4 < 1))) || (decide (2147483647 < a.T4))) = true →
 C6 b g (fun k =>
 O6 b (l8.mk c.B3 0) (l8.mk ⟨#[]⟩ 0) k K)) ∧
 ((((!decide (a.g6 = 2)) || (decide (a.T4 < 1))) || (decide (2147483647 < a.T4))) = false →
 O6 b (l8.mk c.B3 0) (l8.mk ⟨#[]⟩ 0) g K)))) ∧
 (d = false →
 K6 e (l8.mk c.B3 0) (l8.mk ⟨#[]⟩ 0) f K)))
theorem a6i [PanQ] (x0 : b6) {H : Hp} {K : l8 → b6 → Hp → Prop} (h : a3i x0 H K) : W1 x0 H K := by
 intro g0
 refine Ct.ofE fun w0 w ps0 H0 R E I hR hE => c2D ?_
 unfold a3i at h
 unfold F54
 refine p8 I Tryz.zeroValue68 (cs := [(eS), (vi 0)]) rfl fun e al q am => ?_
 refine g8 Tryz.call53 (h g0) (q.bring 1) ?_
 rintro _ _ _ an j _ _ ⟨ao, rfl, rfl, h⟩
 refine b5 (s9 _) (b5 a2p (g9 (l1 Tryz.isAgg3 j rfl) (b5 pAd (b5 (s9 _) ?_))))
 refine b5 a2p ?_
 refine g7 j Tryz.sizeOf3 (vs := [(vi (IntKind.wrap .i64 (x0.fn + 1)))]) (cs' := [(vs x0.fl), (vi (IntKind.wrap .i64 (x0.fn + 1)))]) rfl rfl (nb rfl) rfl rfl fun ap r aq => ?_
 refine v7 hE Tryz.call102 (h g0) r ?_
 rintro _ s _ ar t _ _ ⟨c, u, rfl, rfl, h⟩
 refine b5 b3l (b5 (b4M _) ?_)
 refine p8 t Tryz.zeroValue68 (cs := [(eS), (vi 0)]) rfl fun f au v av => ?_
 refine g7 v Tryz.sizeOf68 (vs := [(Value.string c.B3), (vi 0)]) (cs' := [(Value.string c.B3), (vi 0)]) rfl rfl (nb rfl) rfl rfl fun aw k ax => ?_
 have hj1 : ∀ (t8 : b6) (d : l8) H w (_ : Inv w0 ps0 H0 H [bx g0 101 (b9 t8), bx f 68 (A0 d), bx e 68 [(Value.string (l8.mk ⟨#[]⟩ 0).B0), (vi (l8.mk ⟨#[]⟩ 0).a3t)]] w) (_ : K6 t8 d (l8.mk ⟨#[]⟩ 0) H K), b3A (Value.pointer (some ⟨g0, 0, none⟩)) (Value.pointer (some ⟨e, 0, none⟩)) (Value.pointer (some ⟨f, 0, none⟩)) w R E := by
  intro t8 d H w I h
  unfold b3A
  intro _
  unfold K6 at h
  refine v7 hE Tryz.call103 (h g0) I ?_
  rintro _ y _ ay l _ _ ⟨z, rfl, rfl, h⟩
  refine g9 (lW Tryz.isAgg68 Tryz.sizeOf68 rfl (l.bring 1)) ?_
  refine g7 (l.bring 2) Tryz.sizeOf68 (vs := (A0 d)) (cs' := (A0 d)) rfl rfl (nb rfl) rfl rfl fun az m ba => ?_
  refine y2 Tryz.isAgg68 Tryz.sizeOf68 rfl (m.at1 (o := 0) (vs := (A0 d)) (nb rfl) rfl) ?_
  exact hR _ y _ _ (m.drop.bring 1).drop ⟨d, z, rfl, rfl, h⟩
 refine v8 fun j1 hx1 => ?_
 refine p5 h (fun _ h => ?_) (fun _ h => ?_)
 ·refine v7 hE Tryz.call103 (h g0) (k.bring 1) ?_
  rintro _ _ _ bb aa _ _ ⟨n, rfl, rfl, h⟩
  have hj2 : ∀ H w (_ : Inv w0 ps0 H0 H [bx g0 101 (b9 n), bx f 68 [(Value.string (l8.mk c.B3 0).B0), (vi (l8.mk c.B3 0).a3t)], bx e 68 [(Value.string (l8.mk ⟨#[]⟩ 0).B0), (vi (l8.mk ⟨#[]⟩ 0).a3t)]] w) (_ : O6 n (l8.mk c.B3 0) (l8.mk ⟨#[]⟩ 0) H K), b3B (Value.pointer (some ⟨g0, 0, none⟩)) (Value.pointer (some ⟨e, 0, none⟩)) (Value.pointer (some ⟨f, 0, none⟩)) w j1 R E := by
   intro H w I h
   unfold b3B
   intro _
   unfold O6 at h
   refine v7 hE Tryz.call104 (h g0) I ?_
   rintro _ _ _ bc ab _ _ ⟨i, bd, rfl, rfl, h⟩
   refine b5 b3m (b5 a7R ?_)
   refine g7 (ab.bring 1) Tryz.sizeOf3 (vs := [(vi i.T4)]) (cs' := [(Value.string (l8.mk c.B3 0).B0), (vi i.T4)]) rfl rfl (nb rfl) rfl rfl fun be ac bf => ?_
   refine v7 hE Tryz.call103 (h g0) (ac.bring 1) ?_
   rintro _ ad _ bg ae _ _ ⟨af, rfl, rfl, h⟩
   exact hx1 _ _ (hj1 af (l8.mk (l8.mk c.B3 0).B0 i.T4) ad _ (((ae.bring 2).bring 2).bring 2) h)
  refine v8 fun j2 hx2 => ?_
  refine g8 Tryz.call51 (h g0) aa ?_
  rintro _ ag _ bh ah _ _ ⟨p, rfl, rfl, h⟩
  refine p8 ah Tryz.zeroValue103 (cs := [(vi 0), (eS), (vi 0), (vi 0), (vi 0)]) rfl fun bi bj ai bk => ?_
  refine g7 ai Tryz.sizeOf103 (vs := (d9 p)) (cs' := (d9 p)) rfl rfl (nb rfl) rfl rfl fun bl b bm => ?_
  refine b5 a0q (g9 (l1 Tryz.isAgg3 b rfl) (b5 pNe ?_))
  refine b5 (Pu.g fun a => by with_reducible exact a5J) ?_
  refine g9 (Ld.g fun a => by simp only [o9 a]; exact (l1 Tryz.isAgg2 b rfl)) ?_
  refine b5 (Pu.g fun a => by simp only [o9 a]; with_reducible exact pLs) ?_
  refine b5 (N5 _ _) ?_
  refine b5 (Pu.g fun a => by with_reducible exact a5J) ?_
  refine g9 (Ld.g fun a => by simp only [o9 a]; exact (l1 Tryz.isAgg2 b rfl)) ?_
  refine b5 (Pu.g fun a => by simp only [o9 a]; with_reducible exact pGt) ?_
  refine b5 (N5 _ _) ?_
  refine p5 h (fun _ h => ?_) (fun _ h => ?_)
  ·refine v7 hE Tryz.call52 (h g0) (b.bring 1) ?_
   rintro _ aj _ bn ak _ _ ⟨rfl, rfl, h⟩
   exact hx2 _ _ (hj2 aj _ ((((ak.bring 1).drop.bring 2).bring 2).bring 2) h)
  ·exact hx2 _ _ (hj2 ag _ (((b.drop.bring 2).bring 2).bring 2) h)
 ·exact hx1 _ _ (hj1 u (l8.mk c.B3 0) s _ (((k.bring 2).bring 1).bring 2) h)
def T6 [PanQ] (a3v : b6) (f : (List l8)) (g : (List g5)) (i : l9) (H : Hp) (K : l9 → b6 → Hp → Prop) : Prop :=
 ∀ (a : Sl) (d : Hp), Hle H d → SlH d 2 A0 a f → a.n ≤ a.c →
 ∀ (b : Sl) (e : Hp), Hle d e → SlH e 6 t7 b g → b.n ≤ b.c →
 K (l9.mk a b) a3v e
def T7 [PanQ] (f : (List l8)) (a2B : b6) (a : (List g5)) (b : l9) (H : Hp) (n3 : (b6 × (List g5) × l9) → Hp → Prop) (K : l9 → b6 → Hp → Prop) : Prop :=
 y8 a2B H (fun c d =>
 (¬ (c.g6 = 5) →
 L8 a2B d (fun g i =>
 B1 a2B 1 g i (fun j =>
 R9 a2B 1 j (fun e k l =>
 (a.length + ([e] : List g5).length) * 121 ≤ 140737488355328 ∧
 n3 (k, (a ++ [e]), b) l)))) ∧
 (c.g6 = 5 →
 T6 a2B f a b d K))
def O7 [PanQ] (t8 : b6) (a : (List l8)) (b : (List g5)) (c : l9) (H : Hp) (K : l9 → b6 → Hp → Prop) : Prop :=
 TL ((t8, b, c) : b6 × (List g5) × l9) H fun (s : b6 × (List g5) × l9) H n3 => T7 a s.1 s.2.1 s.2.2 H n3 K
def T8 [PanQ] (a : (List l8)) (c : (List g5)) (d : l9) (a0I : b6) (H : Hp) (n4 : ((List l8) × (List g5) × l9 × b6) → Hp → Prop) (K : l9 → b6 → Hp → Prop) : Prop :=
 i7 a0I ⟨#[118, 97, 114]⟩ H (fun b e =>
 TG (b = false) (i7 a0I ⟨#[97, 114, 114, 97, 121]⟩ e) false e (fun (f : Bool) (g : Hp) =>
 ((b || f) = true →
 W1 a0I g (fun i j k =>
 (a.length + ([i] : List l8).length) * 25 ≤ 140737488355328 ∧
 n4 ((a ++ [i]), c, d, j) k)) ∧
 ((b || f) = false →
 O7 a0I a c d g K)))
def a0U [PanQ] (x0 : b6) (H : Hp) (K : l9 → b6 → Hp → Prop) : Prop :=
 TL (([], [], (l9.mk (Sl.mk none 0 0) (Sl.mk none 0 0)), x0) : (List l8) × (List g5) × l9 × b6) H fun (s : (List l8) × (List g5) × l9 × b6) H n4 => T8 s.1 s.2.1 s.2.2.1 s.2.2.2 H n4 K
theorem a6j [PanQ] (x0 : b6) {H : Hp} {K : l9 → b6 → Hp → Prop} (h : a0U x0 H K) : a0M x0 H K := by
 intro g0
 refine Ct.ofE fun w0 w ps0 H0 R E I hR hE => c2s ?_
 unfold a0U at h
 unfold F21
 refine p8 I Tryz.zeroValue26 (cs := [(nS), (nS)]) rfl fun r dt cb du => ?_
 refine p8 cb Tryz.zeroValue26 (cs := [(nS), (nS)]) rfl fun t dv cc dw => ?_
 have hj1 : ∀ (t8 : b6) (ab : (List l8)) (ai : (List g5)) (aj : l9) (g : Sl) (ac : Frag) (ak : Sl) (al : Frag) H w (_ : RowL 68 2 A0 g ab ac) (_ : RowL 56 6 t7 ak ai al) (_ : Inv w0 ps0 H0 H [bx g0 101 (b9 t8), bx t 26 [(vs g), (vs ak)], bx r 26 (p9 aj), ac, al] w) (_ : O7 t8 ab ai aj H K), b3w (Value.pointer (some ⟨g0, 0, none⟩)) (Value.pointer (some ⟨r, 0, none⟩)) (Value.pointer (some ⟨t, 0, none⟩)) w R E := by
  intro t8 ab ai aj g ac ak al H w cd ce I h
  unfold b3w
  intro _
  unfold O7 at h
  have hj2 : ∀ (a3v : b6) (ar : (List l8)) (au : (List g5)) (av : l9) (aw : Frag) (p : Sl) (ax : Frag) H w (_ : RowL 68 2 A0 g ar aw) (_ : RowL 56 6 t7 p au ax) (_ : Inv w0 ps0 H0 H [bx g0 101 (b9 a3v), bx t 26 [(vs g), (vs p)], bx r 26 (p9 av), aw, ax] w) (_ : T6 a3v ar au av H K), b3v (Value.pointer (some ⟨r, 0, none⟩)) (Value.pointer (some ⟨t, 0, none⟩)) w R E := by
   intro a3v ar au av aw p ax H w cf cg I h
   unfold b3v
   intro _
   unfold T6 at h
   refine g9 (ldA Tryz.isAgg26 Tryz.sizeOf26 rfl ((I.bring 1).at1 (o := 0) (vs := [(vs g), (vs p)]) (nb rfl) rfl)) ?_
   refine g7 (I.bring 2) Tryz.sizeOf26 (vs := [(vs g), (vs p)]) (cs' := [(vs g), (vs p)]) rfl rfl (nb rfl) rfl rfl fun dx bi dy => ?_
   refine y2 Tryz.isAgg26 Tryz.sizeOf26 rfl (bi.at1 (o := 0) (vs := [(vs g), (vs p)]) (nb rfl) rfl) ?_
   obtain ⟨ch, ci, cj, ck, cl⟩ := Inv.freezeC (bi.bring 3) cf (by decide)
   replace h := h g ch cj ck cl
   obtain ⟨bj, cm, cn, co, cp⟩ := Inv.freezeC (ci.bring 3) cg (by decide)
   replace h := h p bj cn co cp
   exact hR _ bj _ _ (cm.drop.bring 1).drop ⟨(l9.mk g p), a3v, rfl, rfl, h⟩
  refine v8 fun j2 hx2 => ?_
  obtain ⟨ay, ad, cq, cr⟩ := h
  refine E9 (J := fun n l w => ∃ (s : b6 × (List g5) × l9) (H : Hp) (ae : Sl) (am : Frag) , n = ad s ∧ l = (match s with | (a2B, k, m) => []) ∧ (match s with | (a2B, k, m) => RowL 56 6 t7 ae k am) ∧ (match s with | (a2B, k, m) => Inv w0 ps0 H0 H [bx g0 101 (b9 a2B), bx t 26 [(vs g), (vs ae)], bx r 26 (p9 m), ac, am] w) ∧ ay s H) ⟨_, (t8, ai, aj), H, ak, al, rfl, rfl, ce, (((((I.bring 4).bring 4).bring 4).bring 4).bring 4), cq⟩ ?_
  rintro dz ea w next3 ⟨⟨a2B, k, m⟩, H, ae, am, rfl, bk, az, I, ct⟩ hn3
  dsimp only at bk I az
  clear bk
  obtain ⟨n3, hm3, h⟩ : ∃ n3 : (b6 × (List g5) × l9) → Hp → Prop, (∀ s' H', n3 s' H' → ay s' H' ∧ ad s' < ad (a2B, k, m)) ∧ T7 ab a2B k m H n3 K := ⟨_, fun _ _ h => h, cr (a2B, k, m) H (fun s' H' => ay s' H' ∧ ad s' < ad (a2B, k, m)) ct (fun _ _ a b => ⟨a, b⟩)⟩
  unfold b7t
  unfold T7 at h
  refine g8 Tryz.call51 (h g0) I ?_
  rintro _ cu _ eb bl _ _ ⟨ec, rfl, rfl, h⟩
  refine b5 a4X (b5 pNe ?_)
  refine a6H h (fun _ h => ?_) (fun _ h => ?_)
  ·refine g8 Tryz.call56 (h g0) bl ?_
   rintro _ _ _ ed cv _ _ ⟨ee, rfl, rfl, h⟩
   refine v7 hE Tryz.call55 (h g0) cv ?_
   rintro _ _ _ ef cw _ _ ⟨rfl, rfl, h⟩
   refine V7 cw fun eg an => ?_
   refine p7 a2L ?_
   refine C7 (l1 Tryz.isAgg24 (an.bring 1) rfl) ?_
   refine v7 hE Tryz.call57 (h g0) an ?_
   rintro _ cx _ eh bm _ cy ⟨bn, cz, rfl, rfl, h⟩
   refine ⟨(cy _ (an.bring 1).lt1 (Inv.Y1 (Fi := [bx g0 101 (b9 a2B)]) ((an.bring 1).bring 1))), ?_⟩
   refine U7 (e := 56) (c := t7) (xs := [bn]) bm (b5i _ _ _ _ _ _ _ _ _ _ _ _ _ _) rfl rfl a4u a4v (nb rfl) fun ei ej ek da bo db => ?_
   refine ⟨(db _ (bm.bring 1).lt1), ?_⟩
   obtain ⟨dc, h⟩ := h
   refine b7j (s := ae) (xs := k) (bo.bring 5) az (da.srcO ((bo.bring 5).bring 1)) dc fun ba dd el de df em => ?_
   refine p7 a2L ?_
   refine g7 ((df.bring 1).drop.bring 2) Tryz.sizeOf24 (vs := [(vs ba)]) (cs' := [(vs g), (vs ba)]) rfl rfl (nb rfl) rfl rfl fun en dg eo => ?_
   exact hn3 _ _ _ (hm3 _ _ h).2 ⟨(cz, (k ++ [bn]), m), cx, ba, dd, rfl, rfl, de, (((((dg.bring 1).bring 4).bring 4).bring 3).bring 4), (hm3 _ _ h).1⟩
  ·exact hx2 _ _ (hj2 a2B ab k m ac ae am cu _ cd az (((((bl.bring 4).bring 4).bring 4).bring 4).bring 4) h)
 refine v8 fun j1 hx1 => ?_
 obtain ⟨bb, af, dh, di⟩ := h
 refine E9 (J := fun n l w => ∃ (s : (List l8) × (List g5) × l9 × b6) (H : Hp) (y : Sl) (ag : Frag) (u : Sl) (z : Frag) , n = af s ∧ l = (match s with | (d, j, f, a0I) => []) ∧ (match s with | (d, j, f, a0I) => RowL 68 2 A0 y d ag) ∧ (match s with | (d, j, f, a0I) => RowL 56 6 t7 u j z) ∧ (match s with | (d, j, f, a0I) => Inv w0 ps0 H0 H [bx t 26 [(vs y), (vs u)], bx r 26 (p9 f), bx g0 101 (b9 a0I), ag, z] w) ∧ bb s H) ⟨_, ([], [], (l9.mk (Sl.mk none 0 0) (Sl.mk none 0 0)), x0), H, (Sl.mk none 0 0), [], (Sl.mk none 0 0), [], rfl, rfl, (RowL.nil a8r a8s), (RowL.nil a4u a4v), ((((cc.nil.nil.bring 1).bring 4).bring 4).bring 4), dh⟩ ?_
 rintro ep eq w next4 ⟨⟨d, j, f, a0I⟩, H, y, ag, u, z, rfl, bp, bc, bd, I, dj⟩ hn4
 dsimp only at bp I bc bd
 clear bp
 obtain ⟨n4, hm4, h⟩ : ∃ n4 : ((List l8) × (List g5) × l9 × b6) → Hp → Prop, (∀ s' H', n4 s' H' → bb s' H' ∧ af s' < af (d, j, f, a0I)) ∧ T8 d j f a0I H n4 K := ⟨_, fun _ _ h => h, di (d, j, f, a0I) H (fun s' H' => bb s' H' ∧ af s' < af (d, j, f, a0I)) dj (fun _ _ a b => ⟨a, b⟩)⟩
 unfold b7u
 unfold T8 at h
 refine g8 Tryz.call53 (h g0) (I.bring 2) ?_
 rintro _ bq _ br bs _ _ ⟨be, rfl, rfl, h⟩
 simp only [D2]
 refine N6 (D := fun bt ao => ∃ (aa : Bool) (q : Hp) , bt = (gv be false (vB aa)) ∧ (Inv w0 ps0 H0 q [bx g0 101 (b9 a0I), bx t 26 [(vs y), (vs u)], bx r 26 (p9 f), ag, z] ao) ∧ (∀ i, i < br.heap.size → ¬ inF [bx g0 101 (b9 a0I)] i → ao.heap[i]? = br.heap[i]?) ∧ Hle bq q ∧ (((be || aa) = true →
 W1 a0I q (fun (ah : l8) (bf : b6) (bg : Hp) =>
 (d.length + ([ah] : List l8).length) * 25 ≤ 140737488355328 ∧
 n4 ((d ++ [ah]), j, f, bf) bg)) ∧
 ((be || aa) = false →
 O7 a0I d j f q K))) (fun v => ?_) (fun v => ?_) ?_
 ·replace h := h.1 v
  have bu := v
  simp only [o9 bu]
  refine g8 Tryz.call53 (h g0) bs ?_
  rintro _ q _ ao ap bv bw ⟨aa, rfl, rfl, h⟩
  exact ⟨aa, q, by rfl, ap, bw, bv, h⟩
 ·exact ⟨false, bq, by rw [W9 v], bs, fun _ _ _ => rfl, Hle.refl _, h.2 v⟩
 ·clear h
  rintro bt ao ⟨aa, q, rfl, ap, bw, bv, h⟩
  refine b5 (N5 _ _) ?_
  refine p5 h (fun _ h => ?_) (fun _ h => ?_)
  ·refine V7 ap fun er aq => ?_
   refine p7 a6s ?_
   refine C7 (l1 Tryz.isAgg23 (aq.bring 1) rfl) ?_
   refine v7 hE Tryz.call54 (h g0) aq ?_
   rintro _ bg _ es bz _ dk ⟨ah, bf, rfl, rfl, h⟩
   refine ⟨(dk _ (aq.bring 1).lt1 (Inv.Y1 (Fi := [bx g0 101 (b9 a0I)]) ((aq.bring 1).bring 1))), ?_⟩
   refine U7 (e := 68) (c := A0) (xs := [ah]) bz (c0f _ _) rfl rfl a8r a8s (nb rfl) fun et eu ev dl ca dm => ?_
   refine ⟨(dm _ (bz.bring 1).lt1), ?_⟩
   obtain ⟨dn, h⟩ := h
   refine c2i (s := y) (xs := d) (ca.bring 4) bc (dl.srcO ((ca.bring 4).bring 1)) dn fun bh dp ew dq dr ex => ?_
   refine p7 a6s ?_
   refine g7 ((dr.bring 1).drop.bring 2) Tryz.sizeOf23 (vs := [(vs bh)]) (cs' := [(vs bh), (vs u)]) rfl rfl (nb rfl) rfl rfl fun ey ds ez => ?_
   exact hn4 _ _ _ (hm4 _ _ h).2 ⟨((d ++ [ah]), j, f, bf), bg, bh, dp, u, z, rfl, rfl, dq, bd, (((((ds.bring 4).bring 2).bring 3).bring 4).bring 4), (hm4 _ _ h).1⟩
  ·exact hx1 _ _ (hj1 a0I d j f y ag u z q _ bc bd (((((ap.bring 4).bring 4).bring 4).bring 4).bring 4) h)
def a2s (H : Hp) (K : Int → Int → Hp → Prop) : Prop :=
 K 0 0 H
def a0t (b8G : ByteArray) (b : ByteArray) (a : Nat) (H : Hp) (n2 : Nat → Hp → Prop) (K : Int → Int → Hp → Prop) : Prop :=
 (a < b.size →
 (¬ (((Utf8.decode b a).1 : Int) = 65533) →
 n2 (a + (Utf8.decode b a).2) H) ∧
 (((Utf8.decode b a).1 : Int) = 65533 →
 (0 : Int) ≤ ((a : Nat) : Int) ∧ (((a : Nat) : Int) : Int) ≤ b8G.size ∧
 V9 (b8G.extract (((a : Nat) : Int) : Int).toNat b8G.size) H (fun e c d =>
 (c = 1 →
 K ((a : Nat) : Int) 11 d) ∧
 (¬ (c = 1) →
 n2 (a + (Utf8.decode b a).2) d)))) ∧
 (¬ (a < b.size) →
 a2s H K)
def a3q (x0 : ByteArray) (H : Hp) (K : Int → Int → Hp → Prop) : Prop :=
 (65536 < (x0.size : Int) →
 K 0 10 H) ∧
 (¬ (65536 < (x0.size : Int)) →
 TL (0 : Nat) H fun (s : Nat) H n2 => a0t x0 x0 s H n2 K)
theorem a8w (x0) {H K} (h : a3q x0 H K) : a5o x0 H K := by
 refine Ct.of fun w0 w ps0 H0 R E I hR => c2W ?_
 unfold a3q at h
 unfold F97
 refine b5 (a3B _) (b5 pGt ?_)
 refine k7 h (fun _ h => ?_) (fun _ h => ?_)
 ·exact hR _ H _ _ I ⟨0, 10, rfl, rfl, h⟩
 ·have hj1 : ∀ H w (_ : Inv w0 ps0 H0 H [] w) (_ : a2s H K), b3R w R E := by
   intro H w I h
   unfold b3R
   intro _
   unfold a2s at h
   exact hR _ H _ _ I ⟨0, 0, rfl, rfl, h⟩
  refine v8 fun j1 hx1 => ?_
  refine a9e Tryz.underlying9 x0 I fun m aa o ab => ?_
  obtain ⟨f, d, p, q⟩ := h
  refine E9 (J := fun n l w => ∃ (s : Nat) (H : Hp) , n = d s ∧ l = [] ∧ Inv w0 ps0 H0 H [itf m x0 s] w ∧ f s H) ⟨_, 0, H, rfl, rfl, o, p⟩ ?_
  rintro ac ad w next2 ⟨c, H, rfl, r, I, t⟩ hn2
  clear r
  obtain ⟨n2, hm2, h⟩ : ∃ n2 : Nat → Hp → Prop, (∀ s' H', n2 s' H' → f s' H' ∧ d s' < d c) ∧ a0t x0 x0 c H n2 K := ⟨_, fun _ _ h => h, q c H (fun s' H' => f s' H' ∧ d s' < d c) t (fun _ _ a b => ⟨a, b⟩)⟩
  unfold b7H
  unfold a0t at h
  refine b0s I (fun g ae i af => ?_) (fun g => ?_)
  ·replace h := h.1 g
   refine b5 (j8 _ _ (vB true) rfl) ?_
   refine a0H (fun e => ?_) (fun e => by cases e)
   refine b5 (j8 _ _ (vi ((c : Nat) : Int)) rfl) (b5 (j8 _ _ (Value.int .i32 ((Utf8.decode x0 c).1 : Int)) rfl) (b5 pNe ?_))
   refine a6H h (fun _ h => ?_) (fun _ h => ?_)
   ·exact hn2 _ _ _ (hm2 _ _ h).2 ⟨(c + (Utf8.decode x0 c).2), H, rfl, rfl, i, (hm2 _ _ h).1⟩
   ·obtain ⟨u, v, h⟩ := h
    refine b5 (b5g x0 Tryz.underlying9 u v) ?_
    refine g8 Tryz.call128 h i ?_
    rintro _ j _ ag k _ _ ⟨y, z, rfl, rfl, h⟩
    refine b5 (j8 _ _ (Value.int .i32 y) rfl) (b5 (j8 _ _ (vi z) rfl) (b5 pEq ?_))
    refine k7 h (fun _ h => ?_) (fun _ h => ?_)
    ·exact hR _ j _ _ k.drop ⟨((c : Nat) : Int), 11, rfl, rfl, h⟩
    ·exact hn2 _ _ _ (hm2 _ _ h).2 ⟨(c + (Utf8.decode x0 c).2), j, rfl, rfl, k, (hm2 _ _ h).1⟩
  ·replace h := h.2 g
   refine b5 (j8 _ _ (vB false) rfl) ?_
   refine a0H (fun e => by cases e) (fun e => ?_)
   exact hx1 _ _ (hj1 H _ I.drop h)
def u2 (Q7 : Int) (r9 : ByteArray) (s6 : Int) (u7 : c8) (B2 : (List b7)) (H : Hp) (K : ByteArray → d6 → (List b7) → Hp → Prop) : Prop :=
 (0 : Int) ≤ Q7 ∧ (Q7 : Int) ≤ s6 ∧ (s6 : Int) ≤ r9.size ∧
 K (r9.extract (Q7 : Int).toNat (s6 : Int).toNat) (d6.mk r9 s6 u7 (Sl.mk none 0 0)) B2 H
def y3 (a9Y : Int) (E8 : Int) (y1 : Bool) (o7 : ByteArray) (o8 : Int) (m6 : c8) (m8 : (List b7)) (H : Hp) (n2 : (Int × Bool × ByteArray × Int × c8 × (List b7)) → Hp → Prop) (K : ByteArray → d6 → (List b7) → Hp → Prop) : Prop :=
 TG (y1 = true) (Z9 E8 H) false H (fun (b : Bool) (c : Hp) =>
 ((y1 && b) = true →
 z6 (d6.mk o7 o8 m6 (Sl.mk none 0 0)) m8 c (fun a d e =>
 u9 (q9 a) d e (fun f g i =>
 n2 (f, g, a.fs, a.fn, a.fat, d) i))) ∧
 ((y1 && b) = false →
 u2 a9Y o7 o8 m6 m8 c K))
def H7 (x0 : d6) (a : (List b7)) (H : Hp) (K : ByteArray → d6 → (List b7) → Hp → Prop) : Prop :=
 u9 (q9 x0) a H (fun b c d =>
 TL ((b, c, x0.fs, x0.fn, x0.fat, a) : Int × Bool × ByteArray × Int × c8 × (List b7)) d fun (s : Int × Bool × ByteArray × Int × c8 × (List b7)) H n2 => y3 x0.fn s.1 s.2.1 s.2.2.1 s.2.2.2.1 s.2.2.2.2.1 s.2.2.2.2.2 H n2 K)
theorem a0u (x0 q) {H K} (h : H7 x0 q H K) : G8 x0 q H K := by
 intro g0 y z aa
 refine Ct.of fun w0 w ps0 H0 R E I hR => a9h ?_
 unfold H7 at h
 unfold b3T
 refine b5 (s9 _) (b5 U2 (g9 (l1 Tryz.isAgg3 I rfl) ?_))
 have hj1 : ∀ (r9 : ByteArray) (s6 : Int) (u7 : c8) (B2 : (List b7)) (R5 : Sl) (K3 : Frag) H w (_ : RowL 103 5 d9 R5 B2 K3) (_ : Inv w0 ps0 H0 H [bx g0 155 [(Value.string r9), (vi s6), (vi u7.A6), (vi u7.E7), (vs R5)], K3] w) (_ : u2 x0.fn r9 s6 u7 B2 H K), a3X (Value.pointer (some ⟨g0, 0, none⟩)) (vi x0.fn) w R E := by
  intro r9 s6 u7 B2 R5 K3 H w a2r I h
  unfold a3X
  intro _
  unfold u2 at h
  refine V7 I fun ax r => ?_
  refine p7 (s9 _) ?_
  refine p7 a4p ?_
  refine p7 (s9 _) ?_
  refine p7 U2 ?_
  refine C7 (l1 Tryz.isAgg9 r rfl) ?_
  refine C7 (l1 Tryz.isAgg3 r rfl) ?_
  obtain ⟨ak, al, am, h⟩ := h
  refine p7 (a7Q r9 Tryz.underlying9 ak al am) ?_
  exact hR _ H _ _ ((r.bring 1).bring 1) ⟨(r9.extract (x0.fn : Int).toNat (s6 : Int).toNat), (d6.mk r9 s6 u7 (Sl.mk none 0 0)), B2, R5, K3, rfl, rfl, a2r, h⟩
 refine v8 fun j1 hx1 => ?_
 refine g8 Tryz.call100 (h g0 y z aa) ((I.bring 1).bring 1) ?_
 rintro _ an _ ay ao _ _ ⟨ab, ac, rfl, rfl, h⟩
 refine b5 (j8 _ _ (Value.int .i32 ab) rfl) (b5 (j8 _ _ (vB ac) rfl) ?_)
 obtain ⟨t, g, ap, aq⟩ := h
 refine E9 (J := fun n l w => ∃ (s : Int × Bool × ByteArray × Int × c8 × (List b7)) (H : Hp) (G3 : Sl) (C5 : Frag) , n = g s ∧ l = (match s with | (E8, y1, o7, o8, m6, m8) => [(Value.int .i32 E8), (vB y1)]) ∧ (match s with | (E8, y1, o7, o8, m6, m8) => RowL 103 5 d9 G3 m8 C5) ∧ (match s with | (E8, y1, o7, o8, m6, m8) => Inv w0 ps0 H0 H [bx g0 155 [(Value.string o7), (vi o8), (vi m6.A6), (vi m6.E7), (vs G3)], C5] w) ∧ t s H) ⟨_, (ab, ac, x0.fs, x0.fn, x0.fat, q), an, y, z, rfl, rfl, aa, ((ao.bring 1).bring 1), ap⟩ ?_
 rintro az ba w next2 ⟨⟨E8, y1, o7, o8, m6, m8⟩, H, G3, C5, rfl, u, O0, I, ar⟩ hn2
 dsimp only at u I O0
 simp only [List.map_cons, List.map_nil, List.cons.injEq, and_true] at u
 obtain ⟨e6, e7⟩ := u
 simp only [e6, e7]
 obtain ⟨n2, hm2, h⟩ : ∃ n2 : (Int × Bool × ByteArray × Int × c8 × (List b7)) → Hp → Prop, (∀ s' H', n2 s' H' → t s' H' ∧ g s' < g (E8, y1, o7, o8, m6, m8)) ∧ y3 x0.fn E8 y1 o7 o8 m6 m8 H n2 K := ⟨_, fun _ _ h => h, aq (E8, y1, o7, o8, m6, m8) H (fun s' H' => t s' H' ∧ g s' < g (E8, y1, o7, o8, m6, m8)) ar (fun _ _ a b => ⟨a, b⟩)⟩
 unfold a7G
 unfold y3 at h
 simp only [D2]
 refine N6 (D := fun ad j => ∃ (f : Bool) (c : Hp) , ad = (gv y1 true (vB f)) ∧ (Inv w0 ps0 H0 c [bx g0 155 [(Value.string o7), (vi o8), (vi m6.A6), (vi m6.E7), (vs G3)], C5] j) ∧ (∀ i, i < w.heap.size → ¬ inF [] i → j.heap[i]? = w.heap[i]?) ∧ Hle H c ∧ (((y1 && f) = true →
 z6 (d6.mk o7 o8 m6 (Sl.mk none 0 0)) m8 c (fun (d : d6) (k : (List b7)) (au : Hp) =>
 u9 (q9 d) k au (fun (m : Int) (o : Bool) (v : Hp) =>
 n2 (m, o, d.fs, d.fn, d.fat, k) v))) ∧
 ((y1 && f) = false →
 u2 x0.fn o7 o8 m6 m8 c K))) (fun e => ?_) (fun e => ?_) ?_
 ·replace h := h.1 e
  have ae := e
  simp only [o9 ae]
  refine g8 Tryz.call136 h I ?_
  rintro _ c _ j p af ag ⟨f, rfl, rfl, h⟩
  exact ⟨f, c, by rfl, p, ag, af, h⟩
 ·exact ⟨false, H, by rw [W9 e], I, fun _ _ _ => rfl, Hle.refl _, h.2 e⟩
 ·clear h
  rintro ad j ⟨f, c, rfl, p, ag, af, h⟩
  refine b5 (F6 _ _) ?_
  refine p5 h (fun _ h => ?_) (fun _ h => ?_)
  ·refine g8 Tryz.call152 (h g0 G3 C5 O0) ((p.bring 1).bring 1) ?_
   rintro _ _ _ bb av _ _ ⟨d, k, ah, ai, rfl, rfl, aj, h⟩
   refine g8 Tryz.call100 (h g0 ah ai aj) ((av.bring 1).bring 1) ?_
   rintro _ v _ bc aw _ _ ⟨m, o, rfl, rfl, h⟩
   refine b5 (j8 _ _ (Value.int .i32 m) rfl) (b5 (j8 _ _ (vB o) rfl) ?_)
   exact hn2 _ _ _ (hm2 _ _ h).2 ⟨(m, o, d.fs, d.fn, d.fat, k), v, ah, ai, rfl, rfl, aj, ((aw.bring 1).bring 1), (hm2 _ _ h).1⟩
  ·exact hx1 _ _ (hj1 o7 o8 m6 m8 G3 C5 c _ O0 ((p.bring 1).bring 1) h)
def a0f (x0 : Int) (H : Hp) (K : Bool → Hp → Prop) : Prop :=
 O9 x0 H (fun a b =>
 K ((decide (a = 1)) || (decide (a = 2))) b)
theorem a5w (x0) {H K} (h : a0f x0 H K) : a0b x0 H K := by
 refine Ct.of fun w0 w ps0 H0 R E I hR => c0D ?_
 unfold a0f at h
 unfold c3o
 refine g8 Tryz.call132 h I ?_
 rintro _ c _ e d _ _ ⟨b, rfl, rfl, h⟩
 refine b5 pEq ?_
 simp only [D2]
 refine b5 (Pu.g fun a => by simp only [o9 a]; with_reducible exact pEq) ?_
 refine b5 (N5 _ _) ?_
 exact hR _ c _ _ d ⟨((decide (b = 1)) || (decide (b = 2))), rfl, rfl, h⟩
def T9 (a1l : ByteArray) (a1m : Int) (a0J : c8) (a0g : (List b7)) (H : Hp) (n1 : (ByteArray × Int × c8 × (List b7)) → Hp → Prop) (K : d6 → (List b7) → Hp → Prop) : Prop :=
 Q1 (d6.mk a1l a1m a0J (Sl.mk none 0 0)) a0g H (fun d e =>
 a1I d ⟨#[35]⟩ e (fun b c =>
 (b = true →
 G8 (d6.mk a1l a1m a0J (Sl.mk none 0 0)) a0g c (fun l f g i =>
 C9 (q9 f) g i (fun m a j k =>
 n1 (a.fs, a.fn, a.fat, j) k))) ∧
 (b = false →
 K (d6.mk a1l a1m a0J (Sl.mk none 0 0)) a0g c)))
def a0V (x0 : d6) (b : (List b7)) (H : Hp) (K : d6 → (List b7) → Hp → Prop) : Prop :=
 C9 (q9 x0) b H (fun e a c d =>
 TL ((a.fs, a.fn, a.fat, c) : ByteArray × Int × c8 × (List b7)) d fun (s : ByteArray × Int × c8 × (List b7)) H n1 => T9 s.1 s.2.1 s.2.2.1 s.2.2.2 H n1 K)
theorem a6k (x0 g) {H K} (h : a0V x0 g H K) : W2 x0 g H K := by
 intro g0 k m o
 refine Ct.of fun w0 w ps0 H0 R E I hR => c2X ?_
 unfold a0V at h
 unfold F99
 refine g8 Tryz.call133 (h g0 k m o) ((I.bring 1).bring 1) ?_
 rintro _ p _ an q _ _ ⟨ao, d, r, t, u, rfl, rfl, v, h⟩
 obtain ⟨e, c, y, z⟩ := h
 refine E9 (J := fun n l w => ∃ (s : ByteArray × Int × c8 × (List b7)) (H : Hp) (a5x : Sl) (a5y : Frag) , n = c s ∧ l = (match s with | (a1l, a1m, a0J, a0g) => []) ∧ (match s with | (a1l, a1m, a0J, a0g) => RowL 103 5 d9 a5x a0g a5y) ∧ (match s with | (a1l, a1m, a0J, a0g) => Inv w0 ps0 H0 H [bx g0 155 [(Value.string a1l), (vi a1m), (vi a0J.A6), (vi a0J.E7), (vs a5x)], a5y] w) ∧ e s H) ⟨_, (d.fs, d.fn, d.fat, r), p, t, u, rfl, rfl, v, ((q.bring 1).bring 1), y⟩ ?_
 rintro ap aq w next1 ⟨⟨a1l, a1m, a0J, a0g⟩, H, a5x, a5y, rfl, i, a8c, I, aa⟩ hn1
 dsimp only at i I a8c
 clear i
 obtain ⟨n1, hm1, h⟩ : ∃ n1 : (ByteArray × Int × c8 × (List b7)) → Hp → Prop, (∀ s' H', n1 s' H' → e s' H' ∧ c s' < c (a1l, a1m, a0J, a0g)) ∧ T9 a1l a1m a0J a0g H n1 K := ⟨_, fun _ _ h => h, z (a1l, a1m, a0J, a0g) H (fun s' H' => e s' H' ∧ c s' < c (a1l, a1m, a0J, a0g)) aa (fun _ _ a b => ⟨a, b⟩)⟩
 unfold b7I
 unfold T9 at h
 refine g8 Tryz.call135 (h g0 a5x a5y a8c) ((I.bring 1).bring 1) ?_
 rintro _ _ _ ar ab _ _ ⟨au, rfl, rfl, h⟩
 refine g8 Tryz.call134 h ab ?_
 rintro _ ac _ av j _ _ ⟨aw, rfl, rfl, h⟩
 refine p5 h (fun _ h => ?_) (fun _ h => ?_)
 ·refine g8 Tryz.call133 (h g0 a5x a5y a8c) ((j.bring 1).bring 1) ?_
  rintro _ _ _ ax ad _ _ ⟨ay, az, ba, ae, af, rfl, rfl, ag, h⟩
  refine g8 Tryz.call133 (h g0 ae af ag) ((ad.bring 1).bring 1) ?_
  rintro _ ah _ bb ai _ _ ⟨bc, f, aj, ak, al, rfl, rfl, am, h⟩
  exact hn1 _ _ _ (hm1 _ _ h).2 ⟨(f.fs, f.fn, f.fat, aj), ah, ak, al, rfl, rfl, am, ((ai.bring 1).bring 1), (hm1 _ _ h).1⟩
 ·exact hR _ ac _ _ ((j.bring 1).bring 1) ⟨(d6.mk a1l a1m a0J (Sl.mk none 0 0)), a0g, a5x, a5y, rfl, rfl, a8c, h⟩
def V3 (f : b7) (r9 : ByteArray) (s6 : Int) (u7 : c8) (B2 : (List b7)) (H : Hp) (K : b7 → Int → d6 → (List b7) → Hp → Prop) : Prop :=
 Q1 (d6.mk r9 s6 u7 (Sl.mk none 0 0)) B2 H (fun a e =>
 (0 : Int) ≤ 1 ∧ (1 : Int) ≤ a.size ∧
 z6 (d6.mk r9 s6 u7 (Sl.mk none 0 0)) B2 e (fun b c d =>
 (((decide ((a.extract 0 (1 : Int).toNat) = ⟨#[38]⟩)) || (decide ((a.extract 0 (1 : Int).toNat) = ⟨#[124]⟩))) = true →
 K (b7.mk 0 ⟨#[]⟩ 0 (c8.mk 0 0)) 20 (q9 b) c d) ∧
 (((decide ((a.extract 0 (1 : Int).toNat) = ⟨#[38]⟩)) || (decide ((a.extract 0 (1 : Int).toNat) = ⟨#[124]⟩))) = false →
 K (b7.mk 4 (a.extract 0 (1 : Int).toNat) 0 (c8.mk 0 0)) 0 (q9 b) c d)))
def V4 (y1 : L3) (A8 : Int) (a : b7) (o7 : ByteArray) (o8 : Int) (m6 : c8) (m8 : (List b7)) (H : Hp) (n2 : (Int × b7 × ByteArray × Int × c8 × (List b7)) → Hp → Prop) (K : b7 → Int → d6 → (List b7) → Hp → Prop) : Prop :=
 (A8 < 6 →
 (0 : Int) ≤ A8 ∧ (A8 : Int) < 6 ∧
 Q1 (d6.mk o7 o8 m6 (Sl.mk none 0 0)) m8 H (fun d e =>
 a1I d (([y1.f0, y1.f1, y1.f2, y1.f3, y1.f4, y1.f5] : List ByteArray).getD (A8 : Int).toNat ⟨#[]⟩) e (fun b c =>
 (b = true →
 z6 (d6.mk o7 o8 m6 (Sl.mk none 0 0)) m8 c (fun f g i =>
 z6 (q9 f) g i (fun j k l =>
 K (b7.mk 4 (([y1.f0, y1.f1, y1.f2, y1.f3, y1.f4, y1.f5] : List ByteArray).getD (A8 : Int).toNat ⟨#[]⟩) 0 (c8.mk 0 0)) 0 (q9 j) k l))) ∧
 (b = false →
 n2 ((IntKind.wrap .i64 (A8 + 1)), a, o7, o8, m6, m8) c)))) ∧
 (¬ (A8 < 6) →
 V3 a o7 o8 m6 m8 H K)
def a1t (x0 : d6) (a : (List b7)) (H : Hp) (K : b7 → Int → d6 → (List b7) → Hp → Prop) : Prop :=
 TL ((0, (b7.mk 0 ⟨#[]⟩ 0 (c8.mk 0 0)), x0.fs, x0.fn, x0.fat, a) : Int × b7 × ByteArray × Int × c8 × (List b7)) H fun (s : Int × b7 × ByteArray × Int × c8 × (List b7)) H n2 => V4 (L3.mk ⟨#[61, 61]⟩ ⟨#[33, 61]⟩ ⟨#[60, 61]⟩ ⟨#[62, 61]⟩ ⟨#[38, 38]⟩ ⟨#[124, 124]⟩) s.1 s.2.1 s.2.2.1 s.2.2.2.1 s.2.2.2.2.1 s.2.2.2.2.2 H n2 K
theorem a6P (x0 j) {H K} (h : a1t x0 j H K) : a3D x0 j H K := by
 intro g0 e af ag
 refine Ct.of fun w0 w ps0 H0 R E I hR => c0K ?_
 unfold a1t at h
 unfold c3v
 refine p8 I Tryz.zeroValue103 (cs := [(vi 0), (eS), (vi 0), (vi 0), (vi 0)]) rfl fun k bf ah bg => ?_
 have hj1 : ∀ (m : b7) (r9 : ByteArray) (s6 : Int) (u7 : c8) (B2 : (List b7)) (K3 : Frag) H w (_ : RowL 103 5 d9 e B2 K3) (_ : Inv w0 ps0 H0 H [bx k 103 (d9 m), bx g0 155 [(Value.string r9), (vi s6), (vi u7.A6), (vi u7.E7), (vs e)], K3] w) (_ : V3 m r9 s6 u7 B2 H K), b1B (Value.pointer (some ⟨g0, 0, none⟩)) (Value.pointer (some ⟨k, 0, none⟩)) w R E := by
  intro m r9 s6 u7 B2 K3 H w a2r I h
  unfold b1B
  intro _
  unfold V3 at h
  refine g8 Tryz.call135 (h g0 e K3 a2r) ((I.bring 2).bring 2) ?_
  rintro _ _ _ bh ai _ _ ⟨f, rfl, rfl, h⟩
  obtain ⟨aj, ak, h⟩ := h
  refine b5 (b5h f Tryz.underlying9 aj ak) ?_
  refine g8 Tryz.call152 (h g0 e K3 a2r) ((ai.bring 1).bring 1) ?_
  rintro _ r _ bi t _ _ ⟨u, v, y, z, rfl, rfl, aa, h⟩
  refine b5 (R6 _ _ _ _ _) ?_
  simp only [D2]
  refine b5 (Pu.g fun c => by simp only [o9 c]; with_reducible exact (R6 _ _ _ _ _)) ?_
  refine b5 (N5 _ _) ?_
  refine p5 h (fun _ h => ?_) (fun _ h => ?_)
  ·refine b5 (b0C ) ?_
   refine g7 (t.bring 2) Tryz.sizeOf103 (vs := [(vi 0), (eS), (vi 0), (vi 0), (vi 0)]) (cs' := [(vi 0), (eS), (vi 0), (vi 0), (vi 0)]) rfl rfl (nb rfl) rfl rfl fun bj ab bk => ?_
   refine y2 Tryz.isAgg103 Tryz.sizeOf103 rfl (ab.at1 (o := 0) (vs := [(vi 0), (eS), (vi 0), (vi 0), (vi 0)]) (nb rfl) rfl) ?_
   exact hR _ r _ _ ((ab.drop.bring 1).bring 1) ⟨(b7.mk 0 ⟨#[]⟩ 0 (c8.mk 0 0)), 20, (q9 u), v, y, z, rfl, rfl, aa, h⟩
  ·refine b5 (a3V _ _) ?_
   refine g7 (t.bring 2) Tryz.sizeOf103 (vs := [(vi 4), (Value.string (f.extract 0 (1 : Int).toNat)), (vi 0), (vi 0), (vi 0)]) (cs' := [(vi 4), (Value.string (f.extract 0 (1 : Int).toNat)), (vi 0), (vi 0), (vi 0)]) rfl rfl (nb rfl) rfl rfl fun bl ac bm => ?_
   refine y2 Tryz.isAgg103 Tryz.sizeOf103 rfl (ac.at1 (o := 0) (vs := [(vi 4), (Value.string (f.extract 0 (1 : Int).toNat)), (vi 0), (vi 0), (vi 0)]) (nb rfl) rfl) ?_
   exact hR _ r _ _ ((ac.drop.bring 1).bring 1) ⟨(b7.mk 4 (f.extract 0 (1 : Int).toNat) 0 (c8.mk 0 0)), 0, (q9 u), v, y, z, rfl, rfl, aa, h⟩
 refine v8 fun j1 hx1 => ?_
 refine b5 (a7r _ _ _ _ _ _) ?_
 obtain ⟨p, i, al, am⟩ := h
 refine E9 (J := fun n l w => ∃ (s : Int × b7 × ByteArray × Int × c8 × (List b7)) (H : Hp) (C5 : Frag) , n = i s ∧ l = (match s with | (A8, d, o7, o8, m6, m8) => [(vi A8)]) ∧ (match s with | (A8, d, o7, o8, m6, m8) => RowL 103 5 d9 e m8 C5) ∧ (match s with | (A8, d, o7, o8, m6, m8) => Inv w0 ps0 H0 H [bx k 103 (d9 d), bx g0 155 [(Value.string o7), (vi o8), (vi m6.A6), (vi m6.E7), (vs e)], C5] w) ∧ p s H) ⟨_, (0, (b7.mk 0 ⟨#[]⟩ 0 (c8.mk 0 0)), x0.fs, x0.fn, x0.fat, j), H, af, rfl, rfl, ag, (((ah.bring 2).bring 2).bring 2), al⟩ ?_
 rintro bn bo w next2 ⟨⟨A8, d, o7, o8, m6, m8⟩, H, C5, rfl, q, O0, I, an⟩ hn2
 dsimp only at q I O0
 simp only [List.map_cons, List.map_nil, List.cons.injEq, and_true] at q
 have e8 := q
 simp only [e8]
 obtain ⟨n2, hm2, h⟩ : ∃ n2 : (Int × b7 × ByteArray × Int × c8 × (List b7)) → Hp → Prop, (∀ s' H', n2 s' H' → p s' H' ∧ i s' < i (A8, d, o7, o8, m6, m8)) ∧ V4 (L3.mk ⟨#[61, 61]⟩ ⟨#[33, 61]⟩ ⟨#[60, 61]⟩ ⟨#[62, 61]⟩ ⟨#[38, 38]⟩ ⟨#[124, 124]⟩) A8 d o7 o8 m6 m8 H n2 K := ⟨_, fun _ _ h => h, am (A8, d, o7, o8, m6, m8) H (fun s' H' => p s' H' ∧ i s' < i (A8, d, o7, o8, m6, m8)) an (fun _ _ a b => ⟨a, b⟩)⟩
 unfold b5t
 unfold V4 at h
 refine b5 pLs ?_
 refine k7 h (fun _ h => ?_) (fun _ h => ?_)
 ·obtain ⟨ao, ap, h⟩ := h
  refine b5 (b6t _ _ _ _ _ _ _ _ ao ap) ?_
  refine g8 Tryz.call135 (h g0 e C5 O0) ((I.bring 2).bring 2) ?_
  rintro _ _ _ bp aq _ _ ⟨bq, rfl, rfl, h⟩
  refine g8 Tryz.call134 h aq ?_
  rintro _ ar _ br ad _ _ ⟨bs, rfl, rfl, h⟩
  refine p5 h (fun _ h => ?_) (fun _ h => ?_)
  ·refine g8 Tryz.call152 (h g0 e C5 O0) ((ad.bring 1).bring 1) ?_
   rintro _ _ _ bt au _ _ ⟨bu, bv, av, aw, rfl, rfl, ax, h⟩
   refine g8 Tryz.call152 (h g0 av aw ax) ((au.bring 1).bring 1) ?_
   rintro _ ay _ bw az _ _ ⟨ba, bb, bc, bd, rfl, rfl, be, h⟩
   refine b5 (a3V _ _) ?_
   refine g7 (az.bring 2) Tryz.sizeOf103 (vs := [(vi 4), (Value.string (([(L3.mk ⟨#[61, 61]⟩ ⟨#[33, 61]⟩ ⟨#[60, 61]⟩ ⟨#[62, 61]⟩ ⟨#[38, 38]⟩ ⟨#[124, 124]⟩).f0, (L3.mk ⟨#[61, 61]⟩ ⟨#[33, 61]⟩ ⟨#[60, 61]⟩ ⟨#[62, 61]⟩ ⟨#[38, 38]⟩ ⟨#[124, 124]⟩).f1, (L3.mk ⟨#[61, 61]⟩ ⟨#[33, 61]⟩ ⟨#[60, 61]⟩ ⟨#[62, 61]⟩ ⟨#[38, 38]⟩ ⟨#[124, 124]⟩).f2, (L3.mk ⟨#[61, 61]⟩ ⟨#[33, 61]⟩ ⟨#[60, 61]⟩ ⟨#[62, 61]⟩ ⟨#[38, 38]⟩ ⟨#[124, 124]⟩).f3, (L3.mk ⟨#[61, 61]⟩ ⟨#[33, 61]⟩ ⟨#[60, 61]⟩ ⟨#[62, 61]⟩ ⟨#[38, 38]⟩ ⟨#[124, 124]⟩).f4, (L3.mk ⟨#[61, 61]⟩ ⟨#[33, 61]⟩ ⟨#[60, 61]⟩ ⟨#[62, 61]⟩ ⟨#[38, 38]⟩ ⟨#[124, 124]⟩).f5] : List ByteArray).getD (A8 : Int).toNat ⟨#[]⟩)), (vi 0), (vi 0), (vi 0)]) (cs' := [(vi 4), (Value.string (([(L3.mk ⟨#[61, 61]⟩ ⟨#[33, 61]⟩ ⟨#[60, 61]⟩ ⟨#[62, 61]⟩ ⟨#[38, 38]⟩ ⟨#[124, 124]⟩).f0, (L3.mk ⟨#[61, 61]⟩ ⟨#[33, 61]⟩ ⟨#[60, 61]⟩ ⟨#[62, 61]⟩ ⟨#[38, 38]⟩ ⟨#[124, 124]⟩).f1, (L3.mk ⟨#[61, 61]⟩ ⟨#[33, 61]⟩ ⟨#[60, 61]⟩ ⟨#[62, 61]⟩ ⟨#[38, 38]⟩ ⟨#[124, 124]⟩).f2, (L3.mk ⟨#[61, 61]⟩ ⟨#[33, 61]⟩ ⟨#[60, 61]⟩ ⟨#[62, 61]⟩ ⟨#[38, 38]⟩ ⟨#[124, 124]⟩).f3, (L3.mk ⟨#[61, 61]⟩ ⟨#[33, 61]⟩ ⟨#[60, 61]⟩ ⟨#[62, 61]⟩ ⟨#[38, 38]⟩ ⟨#[124, 124]⟩).f4, (L3.mk ⟨#[61, 61]⟩ ⟨#[33, 61]⟩ ⟨#[60, 61]⟩ ⟨#[62, 61]⟩ ⟨#[38, 38]⟩ ⟨#[124, 124]⟩).f5] : List ByteArray).getD (A8 : Int).toNat ⟨#[]⟩)), (vi 0), (vi 0), (vi 0)]) rfl rfl (nb rfl) rfl rfl fun bz ae ca => ?_
   refine y2 Tryz.isAgg103 Tryz.sizeOf103 rfl (ae.at1 (o := 0) (vs := [(vi 4), (Value.string (([(L3.mk ⟨#[61, 61]⟩ ⟨#[33, 61]⟩ ⟨#[60, 61]⟩ ⟨#[62, 61]⟩ ⟨#[38, 38]⟩ ⟨#[124, 124]⟩).f0, (L3.mk ⟨#[61, 61]⟩ ⟨#[33, 61]⟩ ⟨#[60, 61]⟩ ⟨#[62, 61]⟩ ⟨#[38, 38]⟩ ⟨#[124, 124]⟩).f1, (L3.mk ⟨#[61, 61]⟩ ⟨#[33, 61]⟩ ⟨#[60, 61]⟩ ⟨#[62, 61]⟩ ⟨#[38, 38]⟩ ⟨#[124, 124]⟩).f2, (L3.mk ⟨#[61, 61]⟩ ⟨#[33, 61]⟩ ⟨#[60, 61]⟩ ⟨#[62, 61]⟩ ⟨#[38, 38]⟩ ⟨#[124, 124]⟩).f3, (L3.mk ⟨#[61, 61]⟩ ⟨#[33, 61]⟩ ⟨#[60, 61]⟩ ⟨#[62, 61]⟩ ⟨#[38, 38]⟩ ⟨#[124, 124]⟩).f4, (L3.mk ⟨#[61, 61]⟩ ⟨#[33, 61]⟩ ⟨#[60, 61]⟩ ⟨#[62, 61]⟩ ⟨#[38, 38]⟩ ⟨#[124, 124]⟩).f5] : List ByteArray).getD (A8 : Int).toNat ⟨#[]⟩)), (vi 0), (vi 0), (vi 0)]) (nb rfl) rfl) ?_
   exact hR _ ay _ _ ((ae.drop.bring 1).bring 1) ⟨(b7.mk 4 (([(L3.mk ⟨#[61, 61]⟩ ⟨#[33, 61]⟩ ⟨#[60, 61]⟩ ⟨#[62, 61]⟩ ⟨#[38, 38]⟩ ⟨#[124, 124]⟩).f0, (L3.mk ⟨#[61, 61]⟩ ⟨#[33, 61]⟩ ⟨#[60, 61]⟩ ⟨#[62, 61]⟩ ⟨#[38, 38]⟩ ⟨#[124, 124]⟩).f1, (L3.mk ⟨#[61, 61]⟩ ⟨#[33, 61]⟩ ⟨#[60, 61]⟩ ⟨#[62, 61]⟩ ⟨#[38, 38]⟩ ⟨#[124, 124]⟩).f2, (L3.mk ⟨#[61, 61]⟩ ⟨#[33, 61]⟩ ⟨#[60, 61]⟩ ⟨#[62, 61]⟩ ⟨#[38, 38]⟩ ⟨#[124, 124]⟩).f3, (L3.mk ⟨#[61, 61]⟩ ⟨#[33, 61]⟩ ⟨#[60, 61]⟩ ⟨#[62, 61]⟩ ⟨#[38, 38]⟩ ⟨#[124, 124]⟩).f4, (L3.mk ⟨#[61, 61]⟩ ⟨#[33, 61]⟩ ⟨#[60, 61]⟩ ⟨#[62, 61]⟩ ⟨#[38, 38]⟩ ⟨#[124, 124]⟩).f5] : List ByteArray).getD (A8 : Int).toNat ⟨#[]⟩) 0 (c8.mk 0 0)), 0, (q9 ba), bb, bc, bd, rfl, rfl, be, h⟩
  ·refine b5 pAd ?_
   exact hn2 _ _ _ (hm2 _ _ h).2 ⟨((IntKind.wrap .i64 (A8 + 1)), d, o7, o8, m6, m8), ar, C5, rfl, rfl, O0, (((ad.bring 1).bring 1).bring 2), (hm2 _ _ h).1⟩
 ·exact hx1 _ _ (hj1 d o7 o8 m6 m8 C5 H _ O0 (((I.bring 2).bring 2).bring 2) h)
def a2T (x0 : f7) (H : Hp) (K : d8 → Hp → Prop) : Prop :=
 K (d8.L1 (R3.mk x0)) H
theorem a8d (x0) {H K} (h : a2T x0 H K) : a5d x0 H K := by
 refine Ct.of fun w0 w ps0 H0 R E I hR => c1g ?_
 unfold a2T at h
 unfold c3R
 refine a0p I (cs := (i6 x0)) rfl fun b c a d => ?_
 refine g9 (lW Tryz.isAgg49 Tryz.sizeOf49 rfl a) (b5 (b3r _ _ _ _ _ _ _ _) (b5 (b1j (R3.mk x0)) ?_))
 exact hR _ H _ _ a.drop ⟨(d8.L1 (R3.mk x0)), rfl, rfl, h⟩
def a1V (x0 : U3) (H : Hp) (K : Bool → Hp → Prop) : Prop :=
 K ((decide (0 ≤ x0.V1.a3t)) && (decide (x0.V1.a3t ≤ 2147483647))) H
theorem a7b (x0) {H K} (h : a1V x0 H K) : a4f x0 H K := by
 refine Ct.of fun w0 w ps0 H0 R E I hR => c1h ?_
 unfold a1V at h
 unfold c3S
 refine a0p I (cs := (A0 x0.V1)) rfl fun c d b e => ?_
 refine b5 a7s (b5 a7R (g9 (l1 Tryz.isAgg3 b rfl) (b5 pGe ?_)))
 refine b5 (Pu.g fun a => by with_reducible exact a7s) ?_
 refine b5 (Pu.g fun a => by simp only [o9 a]; with_reducible exact a7R) ?_
 refine g9 (Ld.g fun a => by simp only [o9 a]; exact (l1 Tryz.isAgg3 b rfl)) ?_
 refine b5 (Pu.g fun a => by simp only [o9 a]; with_reducible exact pLe) ?_
 refine b5 (F6 _ _) ?_
 exact hR _ H _ _ b.drop ⟨((decide (0 ≤ x0.V1.a3t)) && (decide (x0.V1.a3t ≤ 2147483647))), rfl, rfl, h⟩
def a1u (x0 : R4) (H : Hp) (K : Sl → Hp → Prop) : Prop :=
 C8 x0.i8.A4 H (fun d e =>
 z7 x0.i8.m5 e (fun f g =>
 y9 x0.i8.M2 g (fun i j =>
 y9 x0.i8.L5 j (fun k l =>
 ∀ (a : Sl) (b : Hp), Hle l b → SlH b 1 csl a [d, f, i, k] → a.n ≤ a.c →
 C3 a b (fun m o =>
 K m o)))))
theorem a6Q (x0) {H K} (h : a1u x0 H K) : a3H x0 H K := by
 refine Ct.of fun w0 w ps0 H0 R E I hR => c1k ?_
 unfold a1u at h
 unfold c3V
 refine a0p I (cs := (t7 x0.i8)) rfl fun ad ae i af => ?_
 refine V7 i fun ag a => ?_
 refine p7 L9 ?_
 refine p7 a3S ?_
 refine p7 L9 ?_
 refine p7 a2g ?_
 refine p7 L9 ?_
 refine p7 a6t ?_
 refine p7 L9 ?_
 refine p7 a6u ?_
 refine C7 (l1 Tryz.isAgg47 a rfl) ?_
 refine C7 (l1 Tryz.isAgg38 a rfl) ?_
 refine C7 (l1 Tryz.isAgg24 a rfl) ?_
 refine C7 (l1 Tryz.isAgg24 a rfl) ?_
 refine g8 Tryz.call211 h a ?_
 rintro _ _ _ ah b _ d ⟨j, rfl, rfl, h⟩
 refine ⟨(d _ a.lt1 (Inv.Y1 (Fi := []) a)), (d _ a.lt1 (Inv.Y1 (Fi := []) a)), (d _ a.lt1 (Inv.Y1 (Fi := []) a)), ?_⟩
 refine g8 Tryz.call207 h b ?_
 rintro _ _ _ ai f _ g ⟨k, rfl, rfl, h⟩
 refine ⟨(g _ b.lt1 (Inv.Y1 (Fi := []) b)), (g _ b.lt1 (Inv.Y1 (Fi := []) b)), ?_⟩
 refine g8 Tryz.call78 h f ?_
 rintro _ _ _ aj l _ m ⟨n, rfl, rfl, h⟩
 refine ⟨(m _ f.lt1 (Inv.Y1 (Fi := []) f)), ?_⟩
 refine g8 Tryz.call78 h l ?_
 rintro _ _ _ ak o _ _ ⟨p, rfl, rfl, h⟩
 refine U7 (e := 128) (c := csl) (xs := [j, k, n, p]) o (b8D _ _ _ _ _ _ _ _ _ _ _ _) rfl rfl b2T b2U (nb rfl) fun q al am r s an => ?_
 obtain ⟨t, u, v, y, z⟩ := Inv.freezeC s r (by decide)
 replace h := h q t v y z
 refine g8 Tryz.call75 h u ?_
 rintro _ aa _ ao ab _ _ ⟨ac, rfl, rfl, h⟩
 exact hR _ aa _ _ ab.drop ⟨ac, rfl, rfl, h⟩
end Go.Proofs.YthklmeihgmcljaaGreatDoor
