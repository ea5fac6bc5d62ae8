/- Typed formulas of the program's functions, and the theorems that the contracts follow from them; printed by lift.py off the code. -/
import Derived.Test.YthklmeihgmcljaaDoorzNV1
namespace Go.Proofs.YthklmeihgmcljaaDoor
open Go.RowKit
set_option maxRecDepth 100000
set_option maxHeartbeats 2000000
def p8 (Z4 : Int) (H : Hp) (K : Int → Hp → Prop) : Prop :=
 K Z4 H
def p9 (b : ByteArray) (M7 : Int) (a : Nat) (H : Hp) (n2 : (Int × Nat) → Hp → Prop) (K : Int → Hp → Prop) : Prop :=
 (a < b.size →
 n2 ((IntKind.wrap .i64 (M7 + 1)), (a + (Utf8.decode b a).2)) H) ∧
 (¬ (a < b.size) →
 p8 M7 H K)
def t1 (x0 : ByteArray) (H : Hp) (K : Int → Hp → Prop) : Prop :=
 TL ((0, 0) : Int × Nat) H fun (s : Int × Nat) H n2 => p9 x0 s.1 s.2 H n2 K
theorem J0 (x0 : ByteArray) {H : Hp} {K : Int → Hp → Prop} (h : t1 x0 H K) : s7 x0 H K := by
 refine Ct.of fun w0 w ps0 H0 R E I hR => a5n ?_
 unfold t1 at h
 unfold F50
 have hj1 : ∀ (Z4 : Int) (H : Hp) (w : World) (_ : Inv w0 ps0 H0 H [] w) (_ : p8 Z4 H K), a0T (vi Z4) w R E := by
  intro Z4 H w I h
  unfold a0T
  intro _
  unfold p8 at h
  exact hR _ H _ _ I ⟨Z4, rfl, rfl, h⟩
 refine B2 fun j1 hx1 => ?_
 refine Z3 Tryd.underlying9 x0 I fun j r k t => ?_
 obtain ⟨f, d, m, o⟩ := h
 refine D2 (J := fun n l w => ∃ (s : Int × Nat) (H : Hp) , n = d s ∧ l = (match s with | (M7, c) => [(vi M7)]) ∧ (match s with | (M7, c) => Inv w0 ps0 H0 H [itf j x0 c] w) ∧ f s H) ⟨_, (0, 0), H, rfl, rfl, k, m⟩ ?_
 rintro u v w next2 ⟨⟨M7, c⟩, H, rfl, g, I, p⟩ hn2
 dsimp only at g I
 simp only [List.map_cons, List.map_nil, List.cons.injEq, and_true] at g
 have e2 := g
 simp only [e2]
 obtain ⟨n2, hm2, h⟩ : ∃ n2 : (Int × Nat) → Hp → Prop, (∀ s' H', n2 s' H' → f s' H' ∧ d s' < d (M7, c)) ∧ p9 x0 M7 c H n2 K := ⟨_, fun _ _ h => h, o (M7, c) H (fun s' H' => f s' H' ∧ d s' < d (M7, c)) p (fun _ _ a b => ⟨a, b⟩)⟩
 unfold a2M
 unfold p9 at h
 refine a0I I (fun i y q z => ?_) (fun i => ?_)
 ·replace h := h.1 i
  refine a8 (c8 _ _ (Value.bool true) rfl) ?_
  refine J4 (fun e => ?_) (fun e => by cases e)
  refine a8 (P6 _ _ _ _ _ _) ?_
  exact hn2 _ _ _ (hm2 _ _ h).2 ⟨((IntKind.wrap .i64 (M7 + 1)), (c + (Utf8.decode x0 c).2)), H, rfl, rfl, q, (hm2 _ _ h).1⟩
 ·replace h := h.2 i
  refine a8 (c8 _ _ (Value.bool false) rfl) ?_
  refine J4 (fun e => by cases e) (fun e => ?_)
  exact hx1 _ _ (hj1 M7 H _ I.drop h)
def r4 (A9 : ByteArray) (B0 : Int) (z8 : b6) (y2 : (List a6)) (H : Hp) (n1 : (ByteArray × Int × b6 × (List a6)) → Hp → Prop) (K : a7 → (List a6) → Hp → Prop) : Prop :=
 q6 (a7.mk A9 B0 z8 (Sl.mk none 0 0)) y2 H (fun d e =>
 C0 d ⟨#[35]⟩ e (fun b c =>
 (b = true →
 m2 (a7.mk A9 B0 z8 (Sl.mk none 0 0)) y2 c (fun l f g i =>
 l8 (f6 f) g i (fun m a j k =>
 n1 (a.fs, a.fn, a.fat, j) k))) ∧
 (b = false →
 K (a7.mk A9 B0 z8 (Sl.mk none 0 0)) y2 c)))
def A0 (x0 : a7) (b : (List a6)) (H : Hp) (K : a7 → (List a6) → Hp → Prop) : Prop :=
 l8 (f6 x0) b H (fun e a c d =>
 TL ((a.fs, a.fn, a.fat, c) : ByteArray × Int × b6 × (List a6)) d fun (s : ByteArray × Int × b6 × (List a6)) H n1 => r4 s.1 s.2.1 s.2.2.1 s.2.2.2 H n1 K)
theorem M8 (x0 : a7) (g : (List a6)) {H : Hp} {K : a7 → (List a6) → Hp → Prop} (h : A0 x0 g H K) : s6 x0 g H K := by
 intro g0 k m o
 refine Ct.of fun w0 w ps0 H0 R E I hR => a4Z ?_
 unfold A0 at h
 unfold F19
 refine g9 Tryd.call37 (h g0 k m o) ((I.bring 1).bring 1) ?_
 rintro _ p _ an q _ _ ⟨ao, d, r, t, u, rfl, rfl, v, h⟩
 obtain ⟨e, c, y, z⟩ := h
 refine D2 (J := fun n l w => ∃ (s : ByteArray × Int × b6 × (List a6)) (H : Hp) (K7 : Sl) (K8 : Frag) , n = c s ∧ l = (match s with | (A9, B0, z8, y2) => []) ∧ (match s with | (A9, B0, z8, y2) => RowL 33 5 b7 K7 y2 K8) ∧ (match s with | (A9, B0, z8, y2) => Inv w0 ps0 H0 H [bx g0 44 [(Value.string A9), (vi B0), (vi z8.o4), (vi z8.r5), (vs K7)], K8] w) ∧ e s H) ⟨_, (d.fs, d.fn, d.fat, r), p, t, u, rfl, rfl, v, ((q.bring 1).bring 1), y⟩ ?_
 rintro ap aq w next1 ⟨⟨A9, B0, z8, y2⟩, H, K7, K8, rfl, i, R2, I, aa⟩ hn1
 dsimp only at i I R2
 clear i
 obtain ⟨n1, hm1, h⟩ : ∃ n1 : (ByteArray × Int × b6 × (List a6)) → Hp → Prop, (∀ s' H', n1 s' H' → e s' H' ∧ c s' < c (A9, B0, z8, y2)) ∧ r4 A9 B0 z8 y2 H n1 K := ⟨_, fun _ _ h => h, z (A9, B0, z8, y2) H (fun s' H' => e s' H' ∧ c s' < c (A9, B0, z8, y2)) aa (fun _ _ a b => ⟨a, b⟩)⟩
 unfold a2G
 unfold r4 at h
 refine g9 Tryd.call39 (h g0 K7 K8 R2) ((I.bring 1).bring 1) ?_
 rintro _ _ _ ar ab _ _ ⟨au, rfl, rfl, h⟩
 refine g9 Tryd.call38 h ab ?_
 rintro _ ac _ av j _ _ ⟨aw, rfl, rfl, h⟩
 refine o9 h (fun _ h => ?_) (fun _ h => ?_)
 ·refine g9 Tryd.call37 (h g0 K7 K8 R2) ((j.bring 1).bring 1) ?_
  rintro _ _ _ ax ad _ _ ⟨ay, az, ba, ae, af, rfl, rfl, ag, h⟩
  refine g9 Tryd.call37 (h g0 ae af ag) ((ad.bring 1).bring 1) ?_
  rintro _ ah _ bb ai _ _ ⟨bc, f, aj, ak, al, rfl, rfl, am, h⟩
  exact hn1 _ _ _ (hm1 _ _ h).2 ⟨(f.fs, f.fn, f.fat, aj), ah, ak, al, rfl, rfl, am, ((ai.bring 1).bring 1), (hm1 _ _ h).1⟩
 ·exact hR _ ac _ _ ((j.bring 1).bring 1) ⟨(a7.mk A9 B0 z8 (Sl.mk none 0 0)), y2, K7, K8, rfl, rfl, R2, h⟩
def j6 (C1 : Int) (f9 : ByteArray) (g5 : Int) (j8 : b6) (k9 : (List a6)) (H : Hp) (K : ByteArray → a7 → (List a6) → Hp → Prop) : Prop :=
 (0 : Int) ≤ C1 ∧ (C1 : Int) ≤ g5 ∧ (g5 : Int) ≤ f9.size ∧
 K (f9.extract (C1 : Int).toNat (g5 : Int).toNat) (a7.mk f9 g5 j8 (Sl.mk none 0 0)) k9 H
def l0 (W4 : Int) (p1 : Int) (k7 : Bool) (d6 : ByteArray) (d7 : Int) (c6 : b6) (c7 : (List a6)) (H : Hp) (n2 : (Int × Bool × ByteArray × Int × b6 × (List a6)) → Hp → Prop) (K : ByteArray → a7 → (List a6) → Hp → Prop) : Prop :=
 TG (k7 = true) (E4 p1 H) false H (fun (b : Bool) (c : Hp) =>
 ((k7 && b) = true →
 j7 (a7.mk d6 d7 c6 (Sl.mk none 0 0)) c7 c (fun a d e =>
 g8 (f6 a) d e (fun f g i =>
 n2 (f, g, a.fs, a.fn, a.fat, d) i))) ∧
 ((k7 && b) = false →
 j6 W4 d6 d7 c6 c7 c K))
def o6 (x0 : a7) (a : (List a6)) (H : Hp) (K : ByteArray → a7 → (List a6) → Hp → Prop) : Prop :=
 g8 (f6 x0) a H (fun b c d =>
 TL ((b, c, x0.fs, x0.fn, x0.fat, a) : Int × Bool × ByteArray × Int × b6 × (List a6)) d fun (s : Int × Bool × ByteArray × Int × b6 × (List a6)) H n2 => l0 x0.fn s.1 s.2.1 s.2.2.1 s.2.2.2.1 s.2.2.2.2.1 s.2.2.2.2.2 H n2 K)
theorem C2 (x0 : a7) (q : (List a6)) {H : Hp} {K : ByteArray → a7 → (List a6) → Hp → Prop} (h : o6 x0 q H K) : o5 x0 q H K := by
 intro g0 y z aa
 refine Ct.of fun w0 w ps0 H0 R E I hR => X9 ?_
 unfold o6 at h
 unfold F37
 refine a8 (o3 _) ?_
 refine a8 s5 ?_
 refine o7 (l1 Tryd.isAgg3 I rfl) ?_
 have hj1 : ∀ (f9 : ByteArray) (g5 : Int) (j8 : b6) (k9 : (List a6)) (q8 : Sl) (m9 : Frag) (H : Hp) (w : World) (_ : RowL 33 5 b7 q8 k9 m9) (_ : Inv w0 ps0 H0 H [bx g0 44 [(Value.string f9), (vi g5), (vi j8.o4), (vi j8.r5), (vs q8)], m9] w) (_ : j6 x0.fn f9 g5 j8 k9 H K), J9 (Value.pointer (some ⟨g0, 0, none⟩)) (vi x0.fn) w R E := by
  intro f9 g5 j8 k9 q8 m9 H w C7 I h
  unfold J9
  intro _
  unfold j6 at h
  refine P5 I fun ax r => ?_
  refine m0 (o3 _) ?_
  refine m0 J8 ?_
  refine m0 (o3 _) ?_
  refine m0 s5 ?_
  refine y4 (l1 Tryd.isAgg9 r rfl) ?_
  refine y4 (l1 Tryd.isAgg3 r rfl) ?_
  obtain ⟨ak, al, am, h⟩ := h
  refine m0 (Q9 f9 Tryd.underlying9 ak al am) ?_
  exact hR _ H _ _ ((r.bring 1).bring 1) ⟨(f9.extract (x0.fn : Int).toNat (g5 : Int).toNat), (a7.mk f9 g5 j8 (Sl.mk none 0 0)), k9, q8, m9, rfl, rfl, C7, h⟩
 refine B2 fun j1 hx1 => ?_
 refine g9 Tryd.call20 (h g0 y z aa) ((I.bring 1).bring 1) ?_
 rintro _ an _ ay ao _ _ ⟨ab, ac, rfl, rfl, h⟩
 refine a8 (c8 _ _ (Value.int .i32 ab) rfl) ?_
 refine a8 (c8 _ _ (Value.bool ac) rfl) ?_
 obtain ⟨t, g, ap, aq⟩ := h
 refine D2 (J := fun n l w => ∃ (s : Int × Bool × ByteArray × Int × b6 × (List a6)) (H : Hp) (m1 : Sl) (l7 : Frag) , n = g s ∧ l = (match s with | (p1, k7, d6, d7, c6, c7) => [(Value.int .i32 p1), (Value.bool k7)]) ∧ (match s with | (p1, k7, d6, d7, c6, c7) => RowL 33 5 b7 m1 c7 l7) ∧ (match s with | (p1, k7, d6, d7, c6, c7) => Inv w0 ps0 H0 H [bx g0 44 [(Value.string d6), (vi d7), (vi c6.o4), (vi c6.r5), (vs m1)], l7] w) ∧ t s H) ⟨_, (ab, ac, x0.fs, x0.fn, x0.fat, q), an, y, z, rfl, rfl, aa, ((ao.bring 1).bring 1), ap⟩ ?_
 rintro az ba w next2 ⟨⟨p1, k7, d6, d7, c6, c7⟩, H, m1, l7, rfl, u, p5, I, ar⟩ hn2
 dsimp only at u I p5
 simp only [List.map_cons, List.map_nil, List.cons.injEq, and_true] at u
 obtain ⟨e6, e7⟩ := u
 simp only [e6, e7]
 obtain ⟨n2, hm2, h⟩ : ∃ n2 : (Int × Bool × ByteArray × Int × b6 × (List a6)) → Hp → Prop, (∀ s' H', n2 s' H' → t s' H' ∧ g s' < g (p1, k7, d6, d7, c6, c7)) ∧ l0 x0.fn p1 k7 d6 d7 c6 c7 H n2 K := ⟨_, fun _ _ h => h, aq (p1, k7, d6, d7, c6, c7) H (fun s' H' => t s' H' ∧ g s' < g (p1, k7, d6, d7, c6, c7)) ar (fun _ _ a b => ⟨a, b⟩)⟩
 unfold T2
 unfold l0 at h
 simp only [t6]
 refine S9 (D := fun ad j => ∃ (f : Bool) (c : Hp) , ad = (gv k7 true (Value.bool f)) ∧ (Inv w0 ps0 H0 c [bx g0 44 [(Value.string d6), (vi d7), (vi c6.o4), (vi c6.r5), (vs m1)], l7] j) ∧ (∀ i, i < w.heap.size → ¬ inF [] i → j.heap[i]? = w.heap[i]?) ∧ Hle H c ∧ (((k7 && f) = true →
 j7 (a7.mk d6 d7 c6 (Sl.mk none 0 0)) c7 c (fun (d : a7) (k : (List a6)) (au : Hp) =>
 g8 (f6 d) k au (fun (m : Int) (o : Bool) (v : Hp) =>
 n2 (m, o, d.fs, d.fn, d.fat, k) v))) ∧
 ((k7 && f) = false →
 j6 x0.fn d6 d7 c6 c7 c K))) (fun e => ?_) (fun e => ?_) ?_
 ·replace h := h.1 e
  have ae := e
  simp only [o2 ae]
  refine g9 Tryd.call29 h I ?_
  rintro _ c _ j p af ag ⟨f, rfl, rfl, h⟩
  exact ⟨f, c, by rfl, p, ag, af, h⟩
 ·exact ⟨false, H, by rw [Z2 e], I, fun _ _ _ => rfl, Hle.refl _, h.2 e⟩
 ·clear h
  rintro ad j ⟨f, c, rfl, p, ag, af, h⟩
  refine a8 (t7 _ _) ?_
  refine o9 h (fun _ h => ?_) (fun _ h => ?_)
  ·refine g9 Tryd.call56 (h g0 m1 l7 p5) ((p.bring 1).bring 1) ?_
   rintro _ _ _ bb av _ _ ⟨d, k, ah, ai, rfl, rfl, aj, h⟩
   refine g9 Tryd.call20 (h g0 ah ai aj) ((av.bring 1).bring 1) ?_
   rintro _ v _ bc aw _ _ ⟨m, o, rfl, rfl, h⟩
   refine a8 (c8 _ _ (Value.int .i32 m) rfl) ?_
   refine a8 (c8 _ _ (Value.bool o) rfl) ?_
   exact hn2 _ _ _ (hm2 _ _ h).2 ⟨(m, o, d.fs, d.fn, d.fat, k), v, ah, ai, rfl, rfl, aj, ((aw.bring 1).bring 1), (hm2 _ _ h).1⟩
  ·exact hx1 _ _ (hj1 d6 d7 c6 c7 m1 l7 c _ p5 ((p.bring 1).bring 1) h)
def r7 (f : a6) (f9 : ByteArray) (g5 : Int) (j8 : b6) (k9 : (List a6)) (H : Hp) (K : a6 → Int → a7 → (List a6) → Hp → Prop) : Prop :=
 q6 (a7.mk f9 g5 j8 (Sl.mk none 0 0)) k9 H (fun a e =>
 (0 : Int) ≤ 1 ∧ (1 : Int) ≤ a.size ∧
 j7 (a7.mk f9 g5 j8 (Sl.mk none 0 0)) k9 e (fun b c d =>
 (((decide ((a.extract 0 (1 : Int).toNat) = ⟨#[38]⟩)) || (decide ((a.extract 0 (1 : Int).toNat) = ⟨#[124]⟩))) = true →
 K (a6.mk 0 ⟨#[]⟩ 0 (b6.mk 0 0)) 20 (f6 b) c d) ∧
 (((decide ((a.extract 0 (1 : Int).toNat) = ⟨#[38]⟩)) || (decide ((a.extract 0 (1 : Int).toNat) = ⟨#[124]⟩))) = false →
 K (a6.mk 4 (a.extract 0 (1 : Int).toNat) 0 (b6.mk 0 0)) 0 (f6 b) c d)))
def r8 (k7 : q5) (C8 : Int) (a : a6) (d6 : ByteArray) (d7 : Int) (c6 : b6) (c7 : (List a6)) (H : Hp) (n2 : (Int × a6 × ByteArray × Int × b6 × (List a6)) → Hp → Prop) (K : a6 → Int → a7 → (List a6) → Hp → Prop) : Prop :=
 (C8 < 6 →
 (0 : Int) ≤ C8 ∧ (C8 : Int) < 6 ∧
 q6 (a7.mk d6 d7 c6 (Sl.mk none 0 0)) c7 H (fun d e =>
 C0 d (([k7.f0, k7.f1, k7.f2, k7.f3, k7.f4, k7.f5] : List ByteArray).getD (C8 : Int).toNat ⟨#[]⟩) e (fun b c =>
 (b = true →
 j7 (a7.mk d6 d7 c6 (Sl.mk none 0 0)) c7 c (fun f g i =>
 j7 (f6 f) g i (fun j k l =>
 K (a6.mk 4 (([k7.f0, k7.f1, k7.f2, k7.f3, k7.f4, k7.f5] : List ByteArray).getD (C8 : Int).toNat ⟨#[]⟩) 0 (b6.mk 0 0)) 0 (f6 j) k l))) ∧
 (b = false →
 n2 ((IntKind.wrap .i64 (C8 + 1)), a, d6, d7, c6, c7) c)))) ∧
 (¬ (C8 < 6) →
 r7 a d6 d7 c6 c7 H K)
def B8 (x0 : a7) (a : (List a6)) (H : Hp) (K : a6 → Int → a7 → (List a6) → Hp → Prop) : Prop :=
 TL ((0, (a6.mk 0 ⟨#[]⟩ 0 (b6.mk 0 0)), x0.fs, x0.fn, x0.fat, a) : Int × a6 × ByteArray × Int × b6 × (List a6)) H fun (s : Int × a6 × ByteArray × Int × b6 × (List a6)) H n2 => r8 (q5.mk ⟨#[61, 61]⟩ ⟨#[33, 61]⟩ ⟨#[60, 61]⟩ ⟨#[62, 61]⟩ ⟨#[38, 38]⟩ ⟨#[124, 124]⟩) s.1 s.2.1 s.2.2.1 s.2.2.2.1 s.2.2.2.2.1 s.2.2.2.2.2 H n2 K
theorem O7 (x0 : a7) (j : (List a6)) {H : Hp} {K : a6 → Int → a7 → (List a6) → Hp → Prop} (h : B8 x0 j H K) : F1 x0 j H K := by
 intro g0 e af ag
 refine Ct.of fun w0 w ps0 H0 R E I hR => a5l ?_
 unfold B8 at h
 unfold F43
 refine u5 I Tryd.zeroValue33 (cs := [(vi 0), (Value.string ⟨#[]⟩), (vi 0), (vi 0), (vi 0)]) rfl fun k bf ah bg => ?_
 have hj1 : ∀ (m : a6) (f9 : ByteArray) (g5 : Int) (j8 : b6) (k9 : (List a6)) (m9 : Frag) (H : Hp) (w : World) (_ : RowL 33 5 b7 e k9 m9) (_ : Inv w0 ps0 H0 H [bx k 33 (b7 m), bx g0 44 [(Value.string f9), (vi g5), (vi j8.o4), (vi j8.r5), (vs e)], m9] w) (_ : r7 m f9 g5 j8 k9 H K), a0S (Value.pointer (some ⟨g0, 0, none⟩)) (Value.pointer (some ⟨k, 0, none⟩)) w R E := by
  intro m f9 g5 j8 k9 m9 H w C7 I h
  unfold a0S
  intro _
  unfold r7 at h
  refine g9 Tryd.call39 (h g0 e m9 C7) ((I.bring 2).bring 2) ?_
  rintro _ _ _ bh ai _ _ ⟨f, rfl, rfl, h⟩
  obtain ⟨aj, ak, h⟩ := h
  refine a8 (a1B f Tryd.underlying9 aj ak) ?_
  refine g9 Tryd.call56 (h g0 e m9 C7) ((ai.bring 1).bring 1) ?_
  rintro _ r _ bi t _ _ ⟨u, v, y, z, rfl, rfl, aa, h⟩
  refine a8 (B3 _ _ _ _ _) ?_
  simp only [t6]
  refine a8 (Pu.g fun hb => by have c := hb; simp only [o2 c]; with_reducible exact (B3 _ _ _ _ _)) ?_
  refine a8 (X3 _ _) ?_
  refine o9 h (fun _ h => ?_) (fun _ h => ?_)
  ·refine a8 (a0g ) ?_
   refine m7 (t.bring 2) Tryd.sizeOf33 (vs := [(vi 0), (Value.string ⟨#[]⟩), (vi 0), (vi 0), (vi 0)]) (cs' := [(vi 0), (Value.string ⟨#[]⟩), (vi 0), (vi 0), (vi 0)]) rfl rfl (nb rfl) rfl rfl fun bj ab bk => ?_
   refine C3 Tryd.isAgg33 Tryd.sizeOf33 rfl (ab.at1 (o := 0) (vs := [(vi 0), (Value.string ⟨#[]⟩), (vi 0), (vi 0), (vi 0)]) (nb rfl) rfl) ?_
   exact hR _ r _ _ ((ab.drop.bring 1).bring 1) ⟨(a6.mk 0 ⟨#[]⟩ 0 (b6.mk 0 0)), 20, (f6 u), v, y, z, rfl, rfl, aa, h⟩
  ·refine a8 (H7 _ _) ?_
   refine m7 (t.bring 2) Tryd.sizeOf33 (vs := [(vi 4), (Value.string (f.extract 0 (1 : Int).toNat)), (vi 0), (vi 0), (vi 0)]) (cs' := [(vi 4), (Value.string (f.extract 0 (1 : Int).toNat)), (vi 0), (vi 0), (vi 0)]) rfl rfl (nb rfl) rfl rfl fun bl ac bm => ?_
   refine C3 Tryd.isAgg33 Tryd.sizeOf33 rfl (ac.at1 (o := 0) (vs := [(vi 4), (Value.string (f.extract 0 (1 : Int).toNat)), (vi 0), (vi 0), (vi 0)]) (nb rfl) rfl) ?_
   exact hR _ r _ _ ((ac.drop.bring 1).bring 1) ⟨(a6.mk 4 (f.extract 0 (1 : Int).toNat) 0 (b6.mk 0 0)), 0, (f6 u), v, y, z, rfl, rfl, aa, h⟩
 refine B2 fun j1 hx1 => ?_
 refine a8 (P8 _ _ _ _ _ _) ?_
 obtain ⟨p, i, al, am⟩ := h
 refine D2 (J := fun n l w => ∃ (s : Int × a6 × ByteArray × Int × b6 × (List a6)) (H : Hp) (l7 : Frag) , n = i s ∧ l = (match s with | (C8, d, d6, d7, c6, c7) => [(vi C8)]) ∧ (match s with | (C8, d, d6, d7, c6, c7) => RowL 33 5 b7 e c7 l7) ∧ (match s with | (C8, d, d6, d7, c6, c7) => Inv w0 ps0 H0 H [bx k 33 (b7 d), bx g0 44 [(Value.string d6), (vi d7), (vi c6.o4), (vi c6.r5), (vs e)], l7] w) ∧ p s H) ⟨_, (0, (a6.mk 0 ⟨#[]⟩ 0 (b6.mk 0 0)), x0.fs, x0.fn, x0.fat, j), H, af, rfl, rfl, ag, (((ah.bring 2).bring 2).bring 2), al⟩ ?_
 rintro bn bo w next2 ⟨⟨C8, d, d6, d7, c6, c7⟩, H, l7, rfl, q, p5, I, an⟩ hn2
 dsimp only at q I p5
 simp only [List.map_cons, List.map_nil, List.cons.injEq, and_true] at q
 have e8 := q
 simp only [e8]
 obtain ⟨n2, hm2, h⟩ : ∃ n2 : (Int × a6 × ByteArray × Int × b6 × (List a6)) → Hp → Prop, (∀ s' H', n2 s' H' → p s' H' ∧ i s' < i (C8, d, d6, d7, c6, c7)) ∧ r8 (q5.mk ⟨#[61, 61]⟩ ⟨#[33, 61]⟩ ⟨#[60, 61]⟩ ⟨#[62, 61]⟩ ⟨#[38, 38]⟩ ⟨#[124, 124]⟩) C8 d d6 d7 c6 c7 H n2 K := ⟨_, fun _ _ h => h, am (C8, d, d6, d7, c6, c7) H (fun s' H' => p s' H' ∧ i s' < i (C8, d, d6, d7, c6, c7)) an (fun _ _ a b => ⟨a, b⟩)⟩
 unfold a2L
 unfold r8 at h
 refine a8 (X2 _ _ _ _ _ _) ?_
 refine k6 h (fun _ h => ?_) (fun _ h => ?_)
 ·obtain ⟨ao, ap, h⟩ := h
  refine a8 (a2D _ _ _ _ _ _ _ _ ao ap) ?_
  refine g9 Tryd.call39 (h g0 e l7 p5) ((I.bring 2).bring 2) ?_
  rintro _ _ _ bp aq _ _ ⟨bq, rfl, rfl, h⟩
  refine g9 Tryd.call38 h aq ?_
  rintro _ ar _ br ad _ _ ⟨bs, rfl, rfl, h⟩
  refine o9 h (fun _ h => ?_) (fun _ h => ?_)
  ·refine g9 Tryd.call56 (h g0 e l7 p5) ((ad.bring 1).bring 1) ?_
   rintro _ _ _ bt au _ _ ⟨bu, bv, av, aw, rfl, rfl, ax, h⟩
   refine g9 Tryd.call56 (h g0 av aw ax) ((au.bring 1).bring 1) ?_
   rintro _ ay _ bw az _ _ ⟨ba, bb, bc, bd, rfl, rfl, be, h⟩
   refine a8 (H7 _ _) ?_
   refine m7 (az.bring 2) Tryd.sizeOf33 (vs := [(vi 4), (Value.string (([(q5.mk ⟨#[61, 61]⟩ ⟨#[33, 61]⟩ ⟨#[60, 61]⟩ ⟨#[62, 61]⟩ ⟨#[38, 38]⟩ ⟨#[124, 124]⟩).f0, (q5.mk ⟨#[61, 61]⟩ ⟨#[33, 61]⟩ ⟨#[60, 61]⟩ ⟨#[62, 61]⟩ ⟨#[38, 38]⟩ ⟨#[124, 124]⟩).f1, (q5.mk ⟨#[61, 61]⟩ ⟨#[33, 61]⟩ ⟨#[60, 61]⟩ ⟨#[62, 61]⟩ ⟨#[38, 38]⟩ ⟨#[124, 124]⟩).f2, (q5.mk ⟨#[61, 61]⟩ ⟨#[33, 61]⟩ ⟨#[60, 61]⟩ ⟨#[62, 61]⟩ ⟨#[38, 38]⟩ ⟨#[124, 124]⟩).f3, (q5.mk ⟨#[61, 61]⟩ ⟨#[33, 61]⟩ ⟨#[60, 61]⟩ ⟨#[62, 61]⟩ ⟨#[38, 38]⟩ ⟨#[124, 124]⟩).f4, (q5.mk ⟨#[61, 61]⟩ ⟨#[33, 61]⟩ ⟨#[60, 61]⟩ ⟨#[62, 61]⟩ ⟨#[38, 38]⟩ ⟨#[124, 124]⟩).f5] : List ByteArray).getD (C8 : Int).toNat ⟨#[]⟩)), (vi 0), (vi 0), (vi 0)]) (cs' := [(vi 4), (Value.string (([(q5.mk ⟨#[61, 61]⟩ ⟨#[33, 61]⟩ ⟨#[60, 61]⟩ ⟨#[62, 61]⟩ ⟨#[38, 38]⟩ ⟨#[124, 124]⟩).f0, (q5.mk ⟨#[61, 61]⟩ ⟨#[33, 61]⟩ ⟨#[60, 61]⟩ ⟨#[62, 61]⟩ ⟨#[38, 38]⟩ ⟨#[124, 124]⟩).f1, (q5.mk ⟨#[61, 61]⟩ ⟨#[33, 61]⟩ ⟨#[60, 61]⟩ ⟨#[62, 61]⟩ ⟨#[38, 38]⟩ ⟨#[124, 124]⟩).f2, (q5.mk ⟨#[61, 61]⟩ ⟨#[33, 61]⟩ ⟨#[60, 61]⟩ ⟨#[62, 61]⟩ ⟨#[38, 38]⟩ ⟨#[124, 124]⟩).f3, (q5.mk ⟨#[61, 61]⟩ ⟨#[33, 61]⟩ ⟨#[60, 61]⟩ ⟨#[62, 61]⟩ ⟨#[38, 38]⟩ ⟨#[124, 124]⟩).f4, (q5.mk ⟨#[61, 61]⟩ ⟨#[33, 61]⟩ ⟨#[60, 61]⟩ ⟨#[62, 61]⟩ ⟨#[38, 38]⟩ ⟨#[124, 124]⟩).f5] : List ByteArray).getD (C8 : Int).toNat ⟨#[]⟩)), (vi 0), (vi 0), (vi 0)]) rfl rfl (nb rfl) rfl rfl fun bz ae ca => ?_
   refine C3 Tryd.isAgg33 Tryd.sizeOf33 rfl (ae.at1 (o := 0) (vs := [(vi 4), (Value.string (([(q5.mk ⟨#[61, 61]⟩ ⟨#[33, 61]⟩ ⟨#[60, 61]⟩ ⟨#[62, 61]⟩ ⟨#[38, 38]⟩ ⟨#[124, 124]⟩).f0, (q5.mk ⟨#[61, 61]⟩ ⟨#[33, 61]⟩ ⟨#[60, 61]⟩ ⟨#[62, 61]⟩ ⟨#[38, 38]⟩ ⟨#[124, 124]⟩).f1, (q5.mk ⟨#[61, 61]⟩ ⟨#[33, 61]⟩ ⟨#[60, 61]⟩ ⟨#[62, 61]⟩ ⟨#[38, 38]⟩ ⟨#[124, 124]⟩).f2, (q5.mk ⟨#[61, 61]⟩ ⟨#[33, 61]⟩ ⟨#[60, 61]⟩ ⟨#[62, 61]⟩ ⟨#[38, 38]⟩ ⟨#[124, 124]⟩).f3, (q5.mk ⟨#[61, 61]⟩ ⟨#[33, 61]⟩ ⟨#[60, 61]⟩ ⟨#[62, 61]⟩ ⟨#[38, 38]⟩ ⟨#[124, 124]⟩).f4, (q5.mk ⟨#[61, 61]⟩ ⟨#[33, 61]⟩ ⟨#[60, 61]⟩ ⟨#[62, 61]⟩ ⟨#[38, 38]⟩ ⟨#[124, 124]⟩).f5] : List ByteArray).getD (C8 : Int).toNat ⟨#[]⟩)), (vi 0), (vi 0), (vi 0)]) (nb rfl) rfl) ?_
   exact hR _ ay _ _ ((ae.drop.bring 1).bring 1) ⟨(a6.mk 4 (([(q5.mk ⟨#[61, 61]⟩ ⟨#[33, 61]⟩ ⟨#[60, 61]⟩ ⟨#[62, 61]⟩ ⟨#[38, 38]⟩ ⟨#[124, 124]⟩).f0, (q5.mk ⟨#[61, 61]⟩ ⟨#[33, 61]⟩ ⟨#[60, 61]⟩ ⟨#[62, 61]⟩ ⟨#[38, 38]⟩ ⟨#[124, 124]⟩).f1, (q5.mk ⟨#[61, 61]⟩ ⟨#[33, 61]⟩ ⟨#[60, 61]⟩ ⟨#[62, 61]⟩ ⟨#[38, 38]⟩ ⟨#[124, 124]⟩).f2, (q5.mk ⟨#[61, 61]⟩ ⟨#[33, 61]⟩ ⟨#[60, 61]⟩ ⟨#[62, 61]⟩ ⟨#[38, 38]⟩ ⟨#[124, 124]⟩).f3, (q5.mk ⟨#[61, 61]⟩ ⟨#[33, 61]⟩ ⟨#[60, 61]⟩ ⟨#[62, 61]⟩ ⟨#[38, 38]⟩ ⟨#[124, 124]⟩).f4, (q5.mk ⟨#[61, 61]⟩ ⟨#[33, 61]⟩ ⟨#[60, 61]⟩ ⟨#[62, 61]⟩ ⟨#[38, 38]⟩ ⟨#[124, 124]⟩).f5] : List ByteArray).getD (C8 : Int).toNat ⟨#[]⟩) 0 (b6.mk 0 0)), 0, (f6 ba), bb, bc, bd, rfl, rfl, be, h⟩
  ·refine a8 (P6 _ _ _ _ _ _) ?_
   exact hn2 _ _ _ (hm2 _ _ h).2 ⟨((IntKind.wrap .i64 (C8 + 1)), d, d6, d7, c6, c7), ar, l7, rfl, rfl, p5, (((ad.bring 1).bring 1).bring 2), (hm2 _ _ h).1⟩
 ·exact hx1 _ _ (hj1 d d6 d7 c6 c7 l7 H _ p5 (((I.bring 2).bring 2).bring 2) h)
end Go.Proofs.YthklmeihgmcljaaDoor
