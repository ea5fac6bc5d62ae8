/- Typed formulas of the program's functions, and the theorems that the contracts follow from them; printed by lift.py off the code. -/
import Derived.Test.YthklmeihgmcljaaDoorzAV1
namespace Go.Proofs.YthklmeihgmcljaaDoor
open Go.RowKit
set_option maxRecDepth 100000
set_option maxHeartbeats 2000000
def r9 (a0r : Int) (H : Hp) (K : Int → Hp → Prop) : Prop :=
 K a0r H
def s1 (b : ByteArray) (P3 : Int) (a : Nat) (H : Hp) (n2 : (Int × Nat) → Hp → Prop) (K : Int → Hp → Prop) : Prop :=
 (a < b.size →
 n2 ((IntKind.wrap .i64 (P3 + 1)), (a + (Utf8.decode b a).2)) H) ∧
 (¬ (a < b.size) →
 r9 P3 H K)
def v7 (x0 : ByteArray) (H : Hp) (K : Int → Hp → Prop) : Prop :=
 TL ((0, 0) : Int × Nat) H fun (s : Int × Nat) H n2 => s1 x0 s.1 s.2 H n2 K
theorem L5 (x0 : ByteArray) {H : Hp} {K : Int → Hp → Prop} (h : v7 x0 H K) : u9 x0 H K := by
 refine Ct.of fun w0 w ps0 H0 R E I hR => a5M ?_
 unfold v7 at h
 unfold F50
 have hj1 : ∀ (a0r : Int) (H : Hp) (w : World) (_ : Inv w0 ps0 H0 H [] w) (_ : r9 a0r H K), a1j (vi a0r) w R E := by
  intro a0r H w I h
  unfold a1j
  intro _
  unfold r9 at h
  exact hR _ H _ _ I ⟨a0r, rfl, rfl, h⟩
 refine y4 fun j1 hx1 => ?_
 refine a0p Tryd.underlying9 x0 I fun j r k t => ?_
 obtain ⟨f, d, m, o⟩ := h
 refine E1 (J := fun n l w => ∃ (s : Int × Nat) (H : Hp) , n = d s ∧ l = (match s with | (P3, c) => [(vi P3)]) ∧ (match s with | (P3, c) => Inv w0 ps0 H0 H [itf j x0 c] w) ∧ f s H) ⟨_, (0, 0), H, rfl, rfl, k, m⟩ ?_
 rintro u v w next2 ⟨⟨P3, c⟩, H, rfl, g, I, p⟩ hn2
 dsimp only at g I
 simp only [List.map_cons, List.map_nil, List.cons.injEq, and_true] at g
 have e2 := g
 simp only [e2]
 obtain ⟨n2, hm2, h⟩ : ∃ n2 : (Int × Nat) → Hp → Prop, (∀ s' H', n2 s' H' → f s' H' ∧ d s' < d (P3, c)) ∧ s1 x0 P3 c H n2 K := ⟨_, fun _ _ h => h, o (P3, c) H (fun s' H' => f s' H' ∧ d s' < d (P3, c)) p (fun _ _ a b => ⟨a, b⟩)⟩
 unfold a3j
 unfold s1 at h
 refine a0Y I (fun i y q z => ?_) (fun i => ?_)
 ·replace h := h.1 i
  refine a7 (f6 _ _ (Value.bool true) rfl) ?_
  refine L8 (fun e => ?_) (fun e => by cases e)
  refine a7 (Q9 _ _ _ _ _ _) ?_
  exact hn2 _ _ _ (hm2 _ _ h).2 ⟨((IntKind.wrap .i64 (P3 + 1)), (c + (Utf8.decode x0 c).2)), H, rfl, rfl, q, (hm2 _ _ h).1⟩
 ·replace h := h.2 i
  refine a7 (f6 _ _ (Value.bool false) rfl) ?_
  refine L8 (fun e => by cases e) (fun e => ?_)
  exact hx1 _ _ (hj1 P3 H _ I.drop h)
def t8 (C6 : ByteArray) (C7 : Int) (B6 : b7) (A0 : (List a6)) (H : Hp) (n1 : (ByteArray × Int × b7 × (List a6)) → Hp → Prop) (K : a8 → (List a6) → Hp → Prop) : Prop :=
 s4 (a8.mk C6 C7 B6 (Sl.mk none 0 0)) A0 H (fun d e =>
 D8 d ⟨#[35]⟩ e (fun b c =>
 (b = true →
 m9 (a8.mk C6 C7 B6 (Sl.mk none 0 0)) A0 c (fun l f g i =>
 l9 (f8 f) g i (fun m a j k =>
 n1 (a.fs, a.fn, a.fat, j) k))) ∧
 (b = false →
 K (a8.mk C6 C7 B6 (Sl.mk none 0 0)) A0 c)))
def B8 (x0 : a8) (b : (List a6)) (H : Hp) (K : a8 → (List a6) → Hp → Prop) : Prop :=
 l9 (f8 x0) b H (fun e a c d =>
 TL ((a.fs, a.fn, a.fat, c) : ByteArray × Int × b7 × (List a6)) d fun (s : ByteArray × Int × b7 × (List a6)) H n1 => t8 s.1 s.2.1 s.2.2.1 s.2.2.2 H n1 K)
theorem P4 (x0 : a8) (g : (List a6)) {H : Hp} {K : a8 → (List a6) → Hp → Prop} (h : B8 x0 g H K) : u7 x0 g H K := by
 intro g0 k m o
 refine Ct.of fun w0 w ps0 H0 R E I hR => a5y ?_
 unfold B8 at h
 unfold F19
 refine i7 Tryd.call37 (h g0 k m o) ((I.bring 1).bring 1) ?_
 rintro _ p _ an q _ _ ⟨ao, d, r, t, u, rfl, rfl, v, h⟩
 obtain ⟨e, c, y, z⟩ := h
 refine E1 (J := fun n l w => ∃ (s : ByteArray × Int × b7 × (List a6)) (H : Hp) (N2 : Sl) (N3 : Frag) , n = c s ∧ l = (match s with | (C6, C7, B6, A0) => []) ∧ (match s with | (C6, C7, B6, A0) => RowL 33 5 b9 N2 A0 N3) ∧ (match s with | (C6, C7, B6, A0) => Inv w0 ps0 H0 H [bx g0 44 [(Value.string C6), (vi C7), (vi B6.s5), (vi B6.y2), (vs N2)], N3] w) ∧ e s H) ⟨_, (d.fs, d.fn, d.fat, r), p, t, u, rfl, rfl, v, ((q.bring 1).bring 1), y⟩ ?_
 rintro ap aq w next1 ⟨⟨C6, C7, B6, A0⟩, H, N2, N3, rfl, i, T6, I, aa⟩ hn1
 dsimp only at i I T6
 clear i
 obtain ⟨n1, hm1, h⟩ : ∃ n1 : (ByteArray × Int × b7 × (List a6)) → Hp → Prop, (∀ s' H', n1 s' H' → e s' H' ∧ c s' < c (C6, C7, B6, A0)) ∧ t8 C6 C7 B6 A0 H n1 K := ⟨_, fun _ _ h => h, z (C6, C7, B6, A0) H (fun s' H' => e s' H' ∧ c s' < c (C6, C7, B6, A0)) aa (fun _ _ a b => ⟨a, b⟩)⟩
 unfold a3d
 unfold t8 at h
 refine i7 Tryd.call39 (h g0 N2 N3 T6) ((I.bring 1).bring 1) ?_
 rintro _ _ _ ar ab _ _ ⟨au, rfl, rfl, h⟩
 refine i7 Tryd.call38 h ab ?_
 rintro _ ac _ av j _ _ ⟨aw, rfl, rfl, h⟩
 refine o7 h (fun _ h => ?_) (fun _ h => ?_)
 ·refine i7 Tryd.call37 (h g0 N2 N3 T6) ((j.bring 1).bring 1) ?_
  rintro _ _ _ ax ad _ _ ⟨ay, az, ba, ae, af, rfl, rfl, ag, h⟩
  refine i7 Tryd.call37 (h g0 ae af ag) ((ad.bring 1).bring 1) ?_
  rintro _ ah _ bb ai _ _ ⟨bc, f, aj, ak, al, rfl, rfl, am, h⟩
  exact hn1 _ _ _ (hm1 _ _ h).2 ⟨(f.fs, f.fn, f.fat, aj), ah, ak, al, rfl, rfl, am, ((ai.bring 1).bring 1), (hm1 _ _ h).1⟩
 ·exact hR _ ac _ _ ((j.bring 1).bring 1) ⟨(a8.mk C6 C7 B6 (Sl.mk none 0 0)), A0, N2, N3, rfl, rfl, T6, h⟩
def j8 (B4 : Int) (g6 : ByteArray) (g7 : Int) (k7 : b7) (l0 : (List a6)) (H : Hp) (K : ByteArray → a8 → (List a6) → Hp → Prop) : Prop :=
 (0 : Int) ≤ B4 ∧ (B4 : Int) ≤ g7 ∧ (g7 : Int) ≤ g6.size ∧
 K (g6.extract (B4 : Int).toNat (g7 : Int).toNat) (a8.mk g6 g7 k7 (Sl.mk none 0 0)) l0 H
def l7 (Y5 : Int) (q8 : Int) (k9 : Bool) (d7 : ByteArray) (d8 : Int) (c8 : b7) (d6 : (List a6)) (H : Hp) (n2 : (Int × Bool × ByteArray × Int × b7 × (List a6)) → Hp → Prop) (K : ByteArray → a8 → (List a6) → Hp → Prop) : Prop :=
 TG (k9 = true) (H6 q8 H) false H (fun (b : Bool) (c : Hp) =>
 ((k9 && b) = true →
 k6 (a8.mk d7 d8 c8 (Sl.mk none 0 0)) d6 c (fun a d e =>
 i6 (f8 a) d e (fun f g i =>
 n2 (f, g, a.fs, a.fn, a.fat, d) i))) ∧
 ((k9 && b) = false →
 j8 Y5 d7 d8 c8 d6 c K))
def q5 (x0 : a8) (a : (List a6)) (H : Hp) (K : ByteArray → a8 → (List a6) → Hp → Prop) : Prop :=
 i6 (f8 x0) a H (fun b c d =>
 TL ((b, c, x0.fs, x0.fn, x0.fat, a) : Int × Bool × ByteArray × Int × b7 × (List a6)) d fun (s : Int × Bool × ByteArray × Int × b7 × (List a6)) H n2 => l7 x0.fn s.1 s.2.1 s.2.2.1 s.2.2.2.1 s.2.2.2.2.1 s.2.2.2.2.2 H n2 K)
theorem D9 (x0 : a8) (q : (List a6)) {H : Hp} {K : ByteArray → a8 → (List a6) → Hp → Prop} (h : q5 x0 q H K) : p9 x0 q H K := by
 intro g0 y z aa
 refine Ct.of fun w0 w ps0 H0 R E I hR => a0b ?_
 unfold q5 at h
 unfold F37
 refine a7 (p8 _) ?_
 refine a7 u6 ?_
 refine q6 (l1 Tryd.isAgg3 I rfl) ?_
 have hj1 : ∀ (g6 : ByteArray) (g7 : Int) (k7 : b7) (l0 : (List a6)) (s6 : Sl) (o8 : Frag) (H : Hp) (w : World) (_ : RowL 33 5 b9 s6 l0 o8) (_ : Inv w0 ps0 H0 H [bx g0 44 [(Value.string g6), (vi g7), (vi k7.s5), (vi k7.y2), (vs s6)], o8] w) (_ : j8 x0.fn g6 g7 k7 l0 H K), M4 (Value.pointer (some ⟨g0, 0, none⟩)) (vi x0.fn) w R E := by
  intro g6 g7 k7 l0 s6 o8 H w E7 I h
  unfold M4
  intro _
  unfold j8 at h
  refine S5 I fun ax r => ?_
  refine m4 (p8 _) ?_
  refine m4 M3 ?_
  refine m4 (p8 _) ?_
  refine m4 u6 ?_
  refine D7 (l1 Tryd.isAgg9 r rfl) ?_
  refine D7 (l1 Tryd.isAgg3 r rfl) ?_
  obtain ⟨ak, al, am, h⟩ := h
  refine m4 (T4 g6 Tryd.underlying9 ak al am) ?_
  exact hR _ H _ _ ((r.bring 1).bring 1) ⟨(g6.extract (x0.fn : Int).toNat (g7 : Int).toNat), (a8.mk g6 g7 k7 (Sl.mk none 0 0)), l0, s6, o8, rfl, rfl, E7, h⟩
 refine y4 fun j1 hx1 => ?_
 refine i7 Tryd.call20 (h g0 y z aa) ((I.bring 1).bring 1) ?_
 rintro _ an _ ay ao _ _ ⟨ab, ac, rfl, rfl, h⟩
 refine a7 (f6 _ _ (Value.int .i32 ab) rfl) ?_
 refine a7 (f6 _ _ (Value.bool ac) rfl) ?_
 obtain ⟨t, g, ap, aq⟩ := h
 refine E1 (J := fun n l w => ∃ (s : Int × Bool × ByteArray × Int × b7 × (List a6)) (H : Hp) (m8 : Sl) (l8 : Frag) , n = g s ∧ l = (match s with | (q8, k9, d7, d8, c8, d6) => [(Value.int .i32 q8), (Value.bool k9)]) ∧ (match s with | (q8, k9, d7, d8, c8, d6) => RowL 33 5 b9 m8 d6 l8) ∧ (match s with | (q8, k9, d7, d8, c8, d6) => Inv w0 ps0 H0 H [bx g0 44 [(Value.string d7), (vi d8), (vi c8.s5), (vi c8.y2), (vs m8)], l8] w) ∧ t s H) ⟨_, (ab, ac, x0.fs, x0.fn, x0.fat, q), an, y, z, rfl, rfl, aa, ((ao.bring 1).bring 1), ap⟩ ?_
 rintro az ba w next2 ⟨⟨q8, k9, d7, d8, c8, d6⟩, H, m8, l8, rfl, u, q9, I, ar⟩ hn2
 dsimp only at u I q9
 simp only [List.map_cons, List.map_nil, List.cons.injEq, and_true] at u
 obtain ⟨e6, e7⟩ := u
 simp only [e6, e7]
 obtain ⟨n2, hm2, h⟩ : ∃ n2 : (Int × Bool × ByteArray × Int × b7 × (List a6)) → Hp → Prop, (∀ s' H', n2 s' H' → t s' H' ∧ g s' < g (q8, k9, d7, d8, c8, d6)) ∧ l7 x0.fn q8 k9 d7 d8 c8 d6 H n2 K := ⟨_, fun _ _ h => h, aq (q8, k9, d7, d8, c8, d6) H (fun s' H' => t s' H' ∧ g s' < g (q8, k9, d7, d8, c8, d6)) ar (fun _ _ a b => ⟨a, b⟩)⟩
 unfold V4
 unfold l7 at h
 simp only [v8]
 refine V3 (D := fun ad j => ∃ (f : Bool) (c : Hp) , ad = (gv k9 true (Value.bool f)) ∧ (Inv w0 ps0 H0 c [bx g0 44 [(Value.string d7), (vi d8), (vi c8.s5), (vi c8.y2), (vs m8)], l8] j) ∧ (∀ i, i < w.heap.size → ¬ inF [] i → j.heap[i]? = w.heap[i]?) ∧ Hle H c ∧ (((k9 && f) = true →
 k6 (a8.mk d7 d8 c8 (Sl.mk none 0 0)) d6 c (fun (d : a8) (k : (List a6)) (au : Hp) =>
 i6 (f8 d) k au (fun (m : Int) (o : Bool) (v : Hp) =>
 n2 (m, o, d.fs, d.fn, d.fat, k) v))) ∧
 ((k9 && f) = false →
 j8 x0.fn d7 d8 c8 d6 c K))) (fun e => ?_) (fun e => ?_) ?_
 ·replace h := h.1 e
  have ae := e
  simp only [m7 ae]
  refine i7 Tryd.call29 h I ?_
  rintro _ c _ j p af ag ⟨f, rfl, rfl, h⟩
  exact ⟨f, c, by rfl, p, ag, af, h⟩
 ·exact ⟨false, H, by rw [a0o e], I, fun _ _ _ => rfl, Hle.refl _, h.2 e⟩
 ·clear h
  rintro ad j ⟨f, c, rfl, p, ag, af, h⟩
  refine a7 (E3 _ _) ?_
  refine o7 h (fun _ h => ?_) (fun _ h => ?_)
  ·refine i7 Tryd.call56 (h g0 m8 l8 q9) ((p.bring 1).bring 1) ?_
   rintro _ _ _ bb av _ _ ⟨d, k, ah, ai, rfl, rfl, aj, h⟩
   refine i7 Tryd.call20 (h g0 ah ai aj) ((av.bring 1).bring 1) ?_
   rintro _ v _ bc aw _ _ ⟨m, o, rfl, rfl, h⟩
   refine a7 (f6 _ _ (Value.int .i32 m) rfl) ?_
   refine a7 (f6 _ _ (Value.bool o) rfl) ?_
   exact hn2 _ _ _ (hm2 _ _ h).2 ⟨(m, o, d.fs, d.fn, d.fat, k), v, ah, ai, rfl, rfl, aj, ((aw.bring 1).bring 1), (hm2 _ _ h).1⟩
  ·exact hx1 _ _ (hj1 d7 d8 c8 d6 m8 l8 c _ q9 ((p.bring 1).bring 1) h)
def u2 (f : a6) (g6 : ByteArray) (g7 : Int) (k7 : b7) (l0 : (List a6)) (H : Hp) (K : a6 → Int → a8 → (List a6) → Hp → Prop) : Prop :=
 s4 (a8.mk g6 g7 k7 (Sl.mk none 0 0)) l0 H (fun a e =>
 (0 : Int) ≤ 1 ∧ (1 : Int) ≤ a.size ∧
 k6 (a8.mk g6 g7 k7 (Sl.mk none 0 0)) l0 e (fun b c d =>
 (((decide ((a.extract 0 (1 : Int).toNat) = ⟨#[38]⟩)) || (decide ((a.extract 0 (1 : Int).toNat) = ⟨#[124]⟩))) = true →
 K (a6.mk 0 ⟨#[]⟩ 0 (b7.mk 0 0)) 20 (f8 b) c d) ∧
 (((decide ((a.extract 0 (1 : Int).toNat) = ⟨#[38]⟩)) || (decide ((a.extract 0 (1 : Int).toNat) = ⟨#[124]⟩))) = false →
 K (a6.mk 4 (a.extract 0 (1 : Int).toNat) 0 (b7.mk 0 0)) 0 (f8 b) c d)))
def u4 (k9 : s2) (E8 : Int) (a : a6) (d7 : ByteArray) (d8 : Int) (c8 : b7) (d6 : (List a6)) (H : Hp) (n2 : (Int × a6 × ByteArray × Int × b7 × (List a6)) → Hp → Prop) (K : a6 → Int → a8 → (List a6) → Hp → Prop) : Prop :=
 (E8 < 6 →
 (0 : Int) ≤ E8 ∧ (E8 : Int) < 6 ∧
 s4 (a8.mk d7 d8 c8 (Sl.mk none 0 0)) d6 H (fun d e =>
 D8 d (([k9.f0, k9.f1, k9.f2, k9.f3, k9.f4, k9.f5] : List ByteArray).getD (E8 : Int).toNat ⟨#[]⟩) e (fun b c =>
 (b = true →
 k6 (a8.mk d7 d8 c8 (Sl.mk none 0 0)) d6 c (fun f g i =>
 k6 (f8 f) g i (fun j k l =>
 K (a6.mk 4 (([k9.f0, k9.f1, k9.f2, k9.f3, k9.f4, k9.f5] : List ByteArray).getD (E8 : Int).toNat ⟨#[]⟩) 0 (b7.mk 0 0)) 0 (f8 j) k l))) ∧
 (b = false →
 n2 ((IntKind.wrap .i64 (E8 + 1)), a, d7, d8, c8, d6) c)))) ∧
 (¬ (E8 < 6) →
 u2 a d7 d8 c8 d6 H K)
def D5 (x0 : a8) (a : (List a6)) (H : Hp) (K : a6 → Int → a8 → (List a6) → Hp → Prop) : Prop :=
 TL ((0, (a6.mk 0 ⟨#[]⟩ 0 (b7.mk 0 0)), x0.fs, x0.fn, x0.fat, a) : Int × a6 × ByteArray × Int × b7 × (List a6)) H fun (s : Int × a6 × ByteArray × Int × b7 × (List a6)) H n2 => u4 (s2.mk ⟨#[61, 61]⟩ ⟨#[33, 61]⟩ ⟨#[60, 61]⟩ ⟨#[62, 61]⟩ ⟨#[38, 38]⟩ ⟨#[124, 124]⟩) s.1 s.2.1 s.2.2.1 s.2.2.2.1 s.2.2.2.2.1 s.2.2.2.2.2 H n2 K
theorem R6 (x0 : a8) (j : (List a6)) {H : Hp} {K : a6 → Int → a8 → (List a6) → Hp → Prop} (h : D5 x0 j H K) : J6 x0 j H K := by
 intro g0 e af ag
 refine Ct.of fun w0 w ps0 H0 R E I hR => a5K ?_
 unfold D5 at h
 unfold F43
 refine B5 I Tryd.zeroValue33 (cs := [(vi 0), (Value.string ⟨#[]⟩), (vi 0), (vi 0), (vi 0)]) rfl fun k bf ah bg => ?_
 have hj1 : ∀ (m : a6) (g6 : ByteArray) (g7 : Int) (k7 : b7) (l0 : (List a6)) (o8 : Frag) (H : Hp) (w : World) (_ : RowL 33 5 b9 e l0 o8) (_ : Inv w0 ps0 H0 H [bx k 33 (b9 m), bx g0 44 [(Value.string g6), (vi g7), (vi k7.s5), (vi k7.y2), (vs e)], o8] w) (_ : u2 m g6 g7 k7 l0 H K), a1i (Value.pointer (some ⟨g0, 0, none⟩)) (Value.pointer (some ⟨k, 0, none⟩)) w R E := by
  intro m g6 g7 k7 l0 o8 H w E7 I h
  unfold a1i
  intro _
  unfold u2 at h
  refine i7 Tryd.call39 (h g0 e o8 E7) ((I.bring 2).bring 2) ?_
  rintro _ _ _ bh ai _ _ ⟨f, rfl, rfl, h⟩
  obtain ⟨aj, ak, h⟩ := h
  refine a7 (a1R f Tryd.underlying9 aj ak) ?_
  refine i7 Tryd.call56 (h g0 e o8 E7) ((ai.bring 1).bring 1) ?_
  rintro _ r _ bi t _ _ ⟨u, v, y, z, rfl, rfl, aa, h⟩
  refine a7 (C9 _ _ _ _ _) ?_
  simp only [v8]
  refine a7 (Pu.g fun hb => by have c := hb; simp only [m7 c]; with_reducible exact (C9 _ _ _ _ _)) ?_
  refine a7 (P8 _ _) ?_
  refine o7 h (fun _ h => ?_) (fun _ h => ?_)
  ·refine a7 (a0A ) ?_
   refine o9 (t.bring 2) Tryd.sizeOf33 (vs := [(vi 0), (Value.string ⟨#[]⟩), (vi 0), (vi 0), (vi 0)]) (cs' := [(vi 0), (Value.string ⟨#[]⟩), (vi 0), (vi 0), (vi 0)]) rfl rfl (nb rfl) rfl rfl fun bj ab bk => ?_
   refine E0 Tryd.isAgg33 Tryd.sizeOf33 rfl (ab.at1 (o := 0) (vs := [(vi 0), (Value.string ⟨#[]⟩), (vi 0), (vi 0), (vi 0)]) (nb rfl) rfl) ?_
   exact hR _ r _ _ ((ab.drop.bring 1).bring 1) ⟨(a6.mk 0 ⟨#[]⟩ 0 (b7.mk 0 0)), 20, (f8 u), v, y, z, rfl, rfl, aa, h⟩
  ·refine a7 (L1 _ _) ?_
   refine o9 (t.bring 2) Tryd.sizeOf33 (vs := [(vi 4), (Value.string (f.extract 0 (1 : Int).toNat)), (vi 0), (vi 0), (vi 0)]) (cs' := [(vi 4), (Value.string (f.extract 0 (1 : Int).toNat)), (vi 0), (vi 0), (vi 0)]) rfl rfl (nb rfl) rfl rfl fun bl ac bm => ?_
   refine E0 Tryd.isAgg33 Tryd.sizeOf33 rfl (ac.at1 (o := 0) (vs := [(vi 4), (Value.string (f.extract 0 (1 : Int).toNat)), (vi 0), (vi 0), (vi 0)]) (nb rfl) rfl) ?_
   exact hR _ r _ _ ((ac.drop.bring 1).bring 1) ⟨(a6.mk 4 (f.extract 0 (1 : Int).toNat) 0 (b7.mk 0 0)), 0, (f8 u), v, y, z, rfl, rfl, aa, h⟩
 refine y4 fun j1 hx1 => ?_
 refine a7 (S6 _ _ _ _ _ _) ?_
 obtain ⟨p, i, al, am⟩ := h
 refine E1 (J := fun n l w => ∃ (s : Int × a6 × ByteArray × Int × b7 × (List a6)) (H : Hp) (l8 : Frag) , n = i s ∧ l = (match s with | (E8, d, d7, d8, c8, d6) => [(vi E8)]) ∧ (match s with | (E8, d, d7, d8, c8, d6) => RowL 33 5 b9 e d6 l8) ∧ (match s with | (E8, d, d7, d8, c8, d6) => Inv w0 ps0 H0 H [bx k 33 (b9 d), bx g0 44 [(Value.string d7), (vi d8), (vi c8.s5), (vi c8.y2), (vs e)], l8] w) ∧ p s H) ⟨_, (0, (a6.mk 0 ⟨#[]⟩ 0 (b7.mk 0 0)), x0.fs, x0.fn, x0.fat, j), H, af, rfl, rfl, ag, (((ah.bring 2).bring 2).bring 2), al⟩ ?_
 rintro bn bo w next2 ⟨⟨E8, d, d7, d8, c8, d6⟩, H, l8, rfl, q, q9, I, an⟩ hn2
 dsimp only at q I q9
 simp only [List.map_cons, List.map_nil, List.cons.injEq, and_true] at q
 have e8 := q
 simp only [e8]
 obtain ⟨n2, hm2, h⟩ : ∃ n2 : (Int × a6 × ByteArray × Int × b7 × (List a6)) → Hp → Prop, (∀ s' H', n2 s' H' → p s' H' ∧ i s' < i (E8, d, d7, d8, c8, d6)) ∧ u4 (s2.mk ⟨#[61, 61]⟩ ⟨#[33, 61]⟩ ⟨#[60, 61]⟩ ⟨#[62, 61]⟩ ⟨#[38, 38]⟩ ⟨#[124, 124]⟩) E8 d d7 d8 c8 d6 H n2 K := ⟨_, fun _ _ h => h, am (E8, d, d7, d8, c8, d6) H (fun s' H' => p s' H' ∧ i s' < i (E8, d, d7, d8, c8, d6)) an (fun _ _ a b => ⟨a, b⟩)⟩
 unfold a3i
 unfold u4 at h
 refine a7 (Z6 _ _ _ _ _ _) ?_
 refine j9 h (fun _ h => ?_) (fun _ h => ?_)
 ·obtain ⟨ao, ap, h⟩ := h
  refine a7 (a3b _ _ _ _ _ _ _ _ ao ap) ?_
  refine i7 Tryd.call39 (h g0 e l8 q9) ((I.bring 2).bring 2) ?_
  rintro _ _ _ bp aq _ _ ⟨bq, rfl, rfl, h⟩
  refine i7 Tryd.call38 h aq ?_
  rintro _ ar _ br ad _ _ ⟨bs, rfl, rfl, h⟩
  refine o7 h (fun _ h => ?_) (fun _ h => ?_)
  ·refine i7 Tryd.call56 (h g0 e l8 q9) ((ad.bring 1).bring 1) ?_
   rintro _ _ _ bt au _ _ ⟨bu, bv, av, aw, rfl, rfl, ax, h⟩
   refine i7 Tryd.call56 (h g0 av aw ax) ((au.bring 1).bring 1) ?_
   rintro _ ay _ bw az _ _ ⟨ba, bb, bc, bd, rfl, rfl, be, h⟩
   refine a7 (L1 _ _) ?_
   refine o9 (az.bring 2) Tryd.sizeOf33 (vs := [(vi 4), (Value.string (([(s2.mk ⟨#[61, 61]⟩ ⟨#[33, 61]⟩ ⟨#[60, 61]⟩ ⟨#[62, 61]⟩ ⟨#[38, 38]⟩ ⟨#[124, 124]⟩).f0, (s2.mk ⟨#[61, 61]⟩ ⟨#[33, 61]⟩ ⟨#[60, 61]⟩ ⟨#[62, 61]⟩ ⟨#[38, 38]⟩ ⟨#[124, 124]⟩).f1, (s2.mk ⟨#[61, 61]⟩ ⟨#[33, 61]⟩ ⟨#[60, 61]⟩ ⟨#[62, 61]⟩ ⟨#[38, 38]⟩ ⟨#[124, 124]⟩).f2, (s2.mk ⟨#[61, 61]⟩ ⟨#[33, 61]⟩ ⟨#[60, 61]⟩ ⟨#[62, 61]⟩ ⟨#[38, 38]⟩ ⟨#[124, 124]⟩).f3, (s2.mk ⟨#[61, 61]⟩ ⟨#[33, 61]⟩ ⟨#[60, 61]⟩ ⟨#[62, 61]⟩ ⟨#[38, 38]⟩ ⟨#[124, 124]⟩).f4, (s2.mk ⟨#[61, 61]⟩ ⟨#[33, 61]⟩ ⟨#[60, 61]⟩ ⟨#[62, 61]⟩ ⟨#[38, 38]⟩ ⟨#[124, 124]⟩).f5] : List ByteArray).getD (E8 : Int).toNat ⟨#[]⟩)), (vi 0), (vi 0), (vi 0)]) (cs' := [(vi 4), (Value.string (([(s2.mk ⟨#[61, 61]⟩ ⟨#[33, 61]⟩ ⟨#[60, 61]⟩ ⟨#[62, 61]⟩ ⟨#[38, 38]⟩ ⟨#[124, 124]⟩).f0, (s2.mk ⟨#[61, 61]⟩ ⟨#[33, 61]⟩ ⟨#[60, 61]⟩ ⟨#[62, 61]⟩ ⟨#[38, 38]⟩ ⟨#[124, 124]⟩).f1, (s2.mk ⟨#[61, 61]⟩ ⟨#[33, 61]⟩ ⟨#[60, 61]⟩ ⟨#[62, 61]⟩ ⟨#[38, 38]⟩ ⟨#[124, 124]⟩).f2, (s2.mk ⟨#[61, 61]⟩ ⟨#[33, 61]⟩ ⟨#[60, 61]⟩ ⟨#[62, 61]⟩ ⟨#[38, 38]⟩ ⟨#[124, 124]⟩).f3, (s2.mk ⟨#[61, 61]⟩ ⟨#[33, 61]⟩ ⟨#[60, 61]⟩ ⟨#[62, 61]⟩ ⟨#[38, 38]⟩ ⟨#[124, 124]⟩).f4, (s2.mk ⟨#[61, 61]⟩ ⟨#[33, 61]⟩ ⟨#[60, 61]⟩ ⟨#[62, 61]⟩ ⟨#[38, 38]⟩ ⟨#[124, 124]⟩).f5] : List ByteArray).getD (E8 : Int).toNat ⟨#[]⟩)), (vi 0), (vi 0), (vi 0)]) rfl rfl (nb rfl) rfl rfl fun bz ae ca => ?_
   refine E0 Tryd.isAgg33 Tryd.sizeOf33 rfl (ae.at1 (o := 0) (vs := [(vi 4), (Value.string (([(s2.mk ⟨#[61, 61]⟩ ⟨#[33, 61]⟩ ⟨#[60, 61]⟩ ⟨#[62, 61]⟩ ⟨#[38, 38]⟩ ⟨#[124, 124]⟩).f0, (s2.mk ⟨#[61, 61]⟩ ⟨#[33, 61]⟩ ⟨#[60, 61]⟩ ⟨#[62, 61]⟩ ⟨#[38, 38]⟩ ⟨#[124, 124]⟩).f1, (s2.mk ⟨#[61, 61]⟩ ⟨#[33, 61]⟩ ⟨#[60, 61]⟩ ⟨#[62, 61]⟩ ⟨#[38, 38]⟩ ⟨#[124, 124]⟩).f2, (s2.mk ⟨#[61, 61]⟩ ⟨#[33, 61]⟩ ⟨#[60, 61]⟩ ⟨#[62, 61]⟩ ⟨#[38, 38]⟩ ⟨#[124, 124]⟩).f3, (s2.mk ⟨#[61, 61]⟩ ⟨#[33, 61]⟩ ⟨#[60, 61]⟩ ⟨#[62, 61]⟩ ⟨#[38, 38]⟩ ⟨#[124, 124]⟩).f4, (s2.mk ⟨#[61, 61]⟩ ⟨#[33, 61]⟩ ⟨#[60, 61]⟩ ⟨#[62, 61]⟩ ⟨#[38, 38]⟩ ⟨#[124, 124]⟩).f5] : List ByteArray).getD (E8 : Int).toNat ⟨#[]⟩)), (vi 0), (vi 0), (vi 0)]) (nb rfl) rfl) ?_
   exact hR _ ay _ _ ((ae.drop.bring 1).bring 1) ⟨(a6.mk 4 (([(s2.mk ⟨#[61, 61]⟩ ⟨#[33, 61]⟩ ⟨#[60, 61]⟩ ⟨#[62, 61]⟩ ⟨#[38, 38]⟩ ⟨#[124, 124]⟩).f0, (s2.mk ⟨#[61, 61]⟩ ⟨#[33, 61]⟩ ⟨#[60, 61]⟩ ⟨#[62, 61]⟩ ⟨#[38, 38]⟩ ⟨#[124, 124]⟩).f1, (s2.mk ⟨#[61, 61]⟩ ⟨#[33, 61]⟩ ⟨#[60, 61]⟩ ⟨#[62, 61]⟩ ⟨#[38, 38]⟩ ⟨#[124, 124]⟩).f2, (s2.mk ⟨#[61, 61]⟩ ⟨#[33, 61]⟩ ⟨#[60, 61]⟩ ⟨#[62, 61]⟩ ⟨#[38, 38]⟩ ⟨#[124, 124]⟩).f3, (s2.mk ⟨#[61, 61]⟩ ⟨#[33, 61]⟩ ⟨#[60, 61]⟩ ⟨#[62, 61]⟩ ⟨#[38, 38]⟩ ⟨#[124, 124]⟩).f4, (s2.mk ⟨#[61, 61]⟩ ⟨#[33, 61]⟩ ⟨#[60, 61]⟩ ⟨#[62, 61]⟩ ⟨#[38, 38]⟩ ⟨#[124, 124]⟩).f5] : List ByteArray).getD (E8 : Int).toNat ⟨#[]⟩) 0 (b7.mk 0 0)), 0, (f8 ba), bb, bc, bd, rfl, rfl, be, h⟩
  ·refine a7 (Q9 _ _ _ _ _ _) ?_
   exact hn2 _ _ _ (hm2 _ _ h).2 ⟨((IntKind.wrap .i64 (E8 + 1)), d, d7, d8, c8, d6), ar, l8, rfl, rfl, q9, (((ad.bring 1).bring 1).bring 2), (hm2 _ _ h).1⟩
 ·exact hx1 _ _ (hj1 d d7 d8 c8 d6 l8 H _ q9 (((I.bring 2).bring 2).bring 2) h)
end Go.Proofs.YthklmeihgmcljaaDoor
