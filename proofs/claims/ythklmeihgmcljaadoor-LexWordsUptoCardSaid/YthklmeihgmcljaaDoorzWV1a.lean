/- Typed formulas of the program's functions, and the theorems that the contracts follow from them; printed by lift.py off the code. -/
import Derived.Test.YthklmeihgmcljaaDoorzWV1
namespace Go.Proofs.YthklmeihgmcljaaDoor
open Go.RowKit
set_option maxRecDepth 100000
set_option maxHeartbeats 2000000
def L2 (x0 : ByteArray) (H : Hp) (K : Bool → Hp → Prop) : Prop :=
 u9 x0 H (fun a b =>
 K (decide (32 < a)) b)
theorem Y7 (x0 : ByteArray) {H : Hp} {K : Bool → Hp → Prop} (h : L2 x0 H K) : B9 x0 H K := by
 refine Ct.of fun w0 w ps0 H0 R E I hR => a6g ?_
 unfold L2 at h
 unfold F28
 refine f9 Tryd.call50 h I ?_
 rintro _ a _ d b _ _ ⟨c, rfl, rfl, h⟩
 refine a7 (W4 _ _ _ _ _ _) ?_
 exact hR _ a _ _ b ⟨(decide (32 < c)), rfl, rfl, h⟩
def D2 (x0 : a8) (a : (List a6)) (H : Hp) (K : ByteArray → Hp → Prop) : Prop :=
 (0 : Int) ≤ x0.fn ∧ (x0.fn : Int) ≤ x0.fs.size ∧
 K (x0.fs.extract (x0.fn : Int).toNat x0.fs.size) H
theorem S1 (x0 : a8) (b : (List a6)) {H : Hp} {K : ByteArray → Hp → Prop} (h : D2 x0 b H K) : r7 x0 b H K := by
 intro g0 e f g
 refine Ct.of fun w0 w ps0 H0 R E I hR => a6n ?_
 unfold D2 at h
 unfold F39
 refine U5 I fun i a => ?_
 refine p6 (o7 _) ?_
 refine p6 N1 ?_
 refine p6 (o7 _) ?_
 refine p6 u6 ?_
 refine G3 (l1 Tryd.isAgg9 a rfl) ?_
 refine G3 (l1 Tryd.isAgg3 a rfl) ?_
 obtain ⟨c, d, h⟩ := h
 refine p6 (a2u x0.fs Tryd.underlying9 c d) ?_
 exact hR _ H _ _ ((a.bring 1).bring 1) ⟨(x0.fs.extract (x0.fn : Int).toNat x0.fs.size), rfl, rfl, h⟩
def v1 (x0 : ByteArray) (x1 : ByteArray) (H : Hp) (K : Bool → Hp → Prop) : Prop :=
 ((decide ((x1.size : Int) ≤ (x0.size : Int))) = true → (0 : Int) ≤ (x1.size : Int) ∧ ((x1.size : Int) : Int) ≤ x0.size) ∧
 K ((decide ((x1.size : Int) ≤ (x0.size : Int))) && (decide ((x0.extract 0 ((x1.size : Int) : Int).toNat) = x1))) H
theorem M4 (x0 : ByteArray) (x1 : ByteArray) {H : Hp} {K : Bool → Hp → Prop} (h : v1 x0 x1 H K) : D1 x0 x1 H K := by
 refine Ct.of fun w0 w ps0 H0 R E I hR => a6x ?_
 unfold v1 at h
 unfold F57
 refine a7 (F1 _) ?_
 refine a7 (F1 _) ?_
 refine a7 (P3 _ _ _ _ _ _) ?_
 simp only [m5]
 refine a7 (Pu.g fun hb => by have a := hb; simp only [j7 a]; with_reducible exact (F1 _)) ?_
 obtain ⟨b, h⟩ := h
 refine a7 (Pu.g fun hb => by have a := hb; simp only [j7 a]; with_reducible exact (a2v x0 Tryd.underlying9 (b hb).1 (b hb).2)) ?_
 refine a7 (Pu.g fun hb => by have a := hb; simp only [j7 a]; with_reducible exact (r3 _ _ _ _ _)) ?_
 refine a7 (r9 _ _) ?_
 exact hR _ H _ _ I ⟨((decide ((x1.size : Int) ≤ (x0.size : Int))) && (decide ((x0.extract 0 ((x1.size : Int) : Int).toNat) = x1))), rfl, rfl, h⟩
def D3 (x0 : a8) (a : (List a6)) (H : Hp) (K : a8 → (List a6) → Hp → Prop) : Prop :=
 r7 (f6 x0) a H (fun e f =>
 u5 e f (fun b c d =>
 (b = 10 →
 K (a8.mk x0.fs (IntKind.wrap .i64 (x0.fn + c)) (b5.mk (IntKind.wrap .i64 (x0.fat.r8 + 1)) 1) (Sl.mk none 0 0)) a d) ∧
 (¬ (b = 10) →
 K (a8.mk x0.fs (IntKind.wrap .i64 (x0.fn + c)) (b5.mk x0.fat.r8 (IntKind.wrap .i64 (x0.fat.y2 + 1))) (Sl.mk none 0 0)) a d)))
theorem S2 (x0 : a8) (c : (List a6)) {H : Hp} {K : a8 → (List a6) → Hp → Prop} (h : D3 x0 c H K) : k8 x0 c H K := by
 intro g0 b d e
 refine Ct.of fun w0 w ps0 H0 R E I hR => a6w ?_
 unfold D3 at h
 unfold F56
 refine f9 Tryd.call39 (h g0 b d e) ((I.bring 1).bring 1) ?_
 rintro _ n _ o k _ _ ⟨p, rfl, rfl, h⟩
 refine f9 Tryd.call33 h k ?_
 rintro _ g _ q i _ _ ⟨l, a, rfl, rfl, h⟩
 refine a7 (d7 _ _ (Value.int .i32 l) rfl) ?_
 refine a7 (d7 _ _ (vi a) rfl) ?_
 refine a7 (o7 _) ?_
 refine a7 u6 ?_
 refine q9 (l1 Tryd.isAgg3 i rfl) ?_
 refine a7 (E8 _ _ _ _ _ _) ?_
 refine a7 (o7 _) ?_
 refine a7 u6 ?_
 refine o8 i Tryd.sizeOf3 (vs := [(vi (IntKind.wrap .i64 (x0.fn + a)))]) (cs' := [(Value.string x0.fs), (vi (IntKind.wrap .i64 (x0.fn + a))), (vi x0.fat.r8), (vi x0.fat.y2), (vs b)]) rfl rfl (nb rfl) rfl rfl fun r j s => ?_
 refine a7 (o7 _) ?_
 refine a7 K9 ?_
 refine a7 a0m ?_
 refine q9 (l1 Tryd.isAgg3 j rfl) ?_
 refine a7 (E8 _ _ _ _ _ _) ?_
 refine a7 (o7 _) ?_
 refine a7 K9 ?_
 refine a7 a0m ?_
 refine o8 j Tryd.sizeOf3 (vs := [(vi (IntKind.wrap .i64 (x0.fat.y2 + 1)))]) (cs' := [(Value.string x0.fs), (vi (IntKind.wrap .i64 (x0.fn + a))), (vi x0.fat.r8), (vi (IntKind.wrap .i64 (x0.fat.y2 + 1))), (vs b)]) rfl rfl (nb rfl) rfl rfl fun t f u => ?_
 refine a7 (l0 _ _ _ _ _ _) ?_
 refine g5 h (fun _ h => ?_) (fun _ h => ?_)
 ·refine a7 (o7 _) ?_
  refine a7 K9 ?_
  refine a7 a2Y ?_
  refine q9 (l1 Tryd.isAgg3 f rfl) ?_
  refine a7 (E8 _ _ _ _ _ _) ?_
  refine a7 (Q1 _ _) ?_
  refine a7 (o7 _) ?_
  refine a7 K9 ?_
  refine o8 f Tryd.sizeOf25 (vs := [(vi (IntKind.wrap .i64 (x0.fat.r8 + 1))), (vi 1)]) (cs' := [(Value.string x0.fs), (vi (IntKind.wrap .i64 (x0.fn + a))), (vi (IntKind.wrap .i64 (x0.fat.r8 + 1))), (vi 1), (vs b)]) rfl rfl (nb rfl) rfl rfl fun v m y => ?_
  exact hR _ g _ _ ((m.bring 1).bring 1) ⟨(a8.mk x0.fs (IntKind.wrap .i64 (x0.fn + a)) (b5.mk (IntKind.wrap .i64 (x0.fat.r8 + 1)) 1) (Sl.mk none 0 0)), c, b, d, rfl, rfl, e, h⟩
 ·exact hR _ g _ _ ((f.bring 1).bring 1) ⟨(a8.mk x0.fs (IntKind.wrap .i64 (x0.fn + a)) (b5.mk x0.fat.r8 (IntKind.wrap .i64 (x0.fat.y2 + 1))) (Sl.mk none 0 0)), c, b, d, rfl, rfl, e, h⟩
def z7 (x0 : Int) (H : Hp) (K : Bool → Hp → Prop) : Prop :=
 r4 x0 H (fun a b =>
 K ((decide (a = 1)) || (decide (a = 2))) b)
theorem N7 (x0 : Int) {H : Hp} {K : Bool → Hp → Prop} (h : z7 x0 H K) : z1 x0 H K := by
 refine Ct.of fun w0 w ps0 H0 R E I hR => a6l ?_
 unfold z7 at h
 unfold F36
 refine f9 Tryd.call30 h I ?_
 rintro _ c _ e d _ _ ⟨b, rfl, rfl, h⟩
 refine a7 (l0 _ _ _ _ _ _) ?_
 simp only [m5]
 refine a7 (Pu.g fun hb => by have a := hb; simp only [j7 a]; with_reducible exact (l0 _ _ _ _ _ _)) ?_
 refine a7 (v8 _ _) ?_
 exact hR _ c _ _ d ⟨((decide (b = 1)) || (decide (b = 2))), rfl, rfl, h⟩
def g6 (E3 : Int) (g7 : ByteArray) (g8 : Int) (k9 : b5) (l8 : (List a6)) (H : Hp) (K : ByteArray → a8 → (List a6) → Hp → Prop) : Prop :=
 (0 : Int) ≤ E3 ∧ (E3 : Int) ≤ g8 ∧ (g8 : Int) ≤ g7.size ∧
 K (g7.extract (E3 : Int).toNat (g8 : Int).toNat) (a8.mk g7 g8 k9 (Sl.mk none 0 0)) l8 H
def j8 (Z8 : Int) (p8 : Int) (l7 : Bool) (c8 : ByteArray) (d6 : Int) (c6 : b5) (c7 : (List a6)) (H : Hp) (n2 : (Int × Bool × ByteArray × Int × b5 × (List a6)) → Hp → Prop) (K : ByteArray → a8 → (List a6) → Hp → Prop) : Prop :=
 TG (l7 = true) (z1 p8 H) false H (fun (b : Bool) (c : Hp) =>
 ((l7 && b) = true →
 k8 (a8.mk c8 d6 c6 (Sl.mk none 0 0)) c7 c (fun a d e =>
 i8 (f6 a) d e (fun f g i =>
 n2 (f, g, a.fs, a.fn, a.fat, d) i))) ∧
 ((l7 && b) = false →
 g6 Z8 c8 d6 c6 c7 c K))
def m9 (x0 : a8) (a : (List a6)) (H : Hp) (K : ByteArray → a8 → (List a6) → Hp → Prop) : Prop :=
 i8 (f6 x0) a H (fun b c d =>
 TL ((b, c, x0.fs, x0.fn, x0.fat, a) : Int × Bool × ByteArray × Int × b5 × (List a6)) d fun (s : Int × Bool × ByteArray × Int × b5 × (List a6)) H n2 => j8 x0.fn s.1 s.2.1 s.2.2.1 s.2.2.2.1 s.2.2.2.2.1 s.2.2.2.2.2 H n2 K)
theorem A7 (x0 : a8) (q : (List a6)) {H : Hp} {K : ByteArray → a8 → (List a6) → Hp → Prop} (h : m9 x0 q H K) : m2 x0 q H K := by
 intro g0 y z aa
 refine Ct.of fun w0 w ps0 H0 R E I hR => a0n ?_
 unfold m9 at h
 unfold F37
 refine a7 (o7 _) ?_
 refine a7 u6 ?_
 refine q9 (l1 Tryd.isAgg3 I rfl) ?_
 have hj1 : ∀ (g7 : ByteArray) (g8 : Int) (k9 : b5) (l8 : (List a6)) (s4 : Sl) (o5 : Frag) (H : Hp) (w : World) (_ : RowL 33 5 b6 s4 l8 o5) (_ : Inv w0 ps0 H0 H [bx g0 44 [(Value.string g7), (vi g8), (vi k9.r8), (vi k9.y2), (vs s4)], o5] w) (_ : g6 x0.fn g7 g8 k9 l8 H K), N2 (Value.pointer (some ⟨g0, 0, none⟩)) (vi x0.fn) w R E := by
  intro g7 g8 k9 l8 s4 o5 H w F6 I h
  unfold N2
  intro _
  unfold g6 at h
  refine U5 I fun ax r => ?_
  refine p6 (o7 _) ?_
  refine p6 N1 ?_
  refine p6 (o7 _) ?_
  refine p6 u6 ?_
  refine G3 (l1 Tryd.isAgg9 r rfl) ?_
  refine G3 (l1 Tryd.isAgg3 r rfl) ?_
  obtain ⟨ak, al, am, h⟩ := h
  refine p6 (U6 g7 Tryd.underlying9 ak al am) ?_
  exact hR _ H _ _ ((r.bring 1).bring 1) ⟨(g7.extract (x0.fn : Int).toNat (g8 : Int).toNat), (a8.mk g7 g8 k9 (Sl.mk none 0 0)), l8, s4, o5, rfl, rfl, F6, h⟩
 refine u4 fun j1 hx1 => ?_
 refine f9 Tryd.call20 (h g0 y z aa) ((I.bring 1).bring 1) ?_
 rintro _ an _ ay ao _ _ ⟨ab, ac, rfl, rfl, h⟩
 refine a7 (d7 _ _ (Value.int .i32 ab) rfl) ?_
 refine a7 (d7 _ _ (Value.bool ac) rfl) ?_
 obtain ⟨t, g, ap, aq⟩ := h
 refine B4 (J := fun n l w => ∃ (s : Int × Bool × ByteArray × Int × b5 × (List a6)) (H : Hp) (m6 : Sl) (m0 : Frag) , n = g s ∧ l = (match s with | (p8, l7, c8, d6, c6, c7) => [(Value.int .i32 p8), (Value.bool l7)]) ∧ (match s with | (p8, l7, c8, d6, c6, c7) => RowL 33 5 b6 m6 c7 m0) ∧ (match s with | (p8, l7, c8, d6, c6, c7) => Inv w0 ps0 H0 H [bx g0 44 [(Value.string c8), (vi d6), (vi c6.r8), (vi c6.y2), (vs m6)], m0] w) ∧ t s H) ⟨_, (ab, ac, x0.fs, x0.fn, x0.fat, q), an, y, z, rfl, rfl, aa, ((ao.bring 1).bring 1), ap⟩ ?_
 rintro az ba w next2 ⟨⟨p8, l7, c8, d6, c6, c7⟩, H, m6, m0, rfl, u, p9, I, ar⟩ hn2
 dsimp only at u I p9
 simp only [List.map_cons, List.map_nil, List.cons.injEq, and_true] at u
 obtain ⟨e6, e7⟩ := u
 simp only [e6, e7]
 obtain ⟨n2, hm2, h⟩ : ∃ n2 : (Int × Bool × ByteArray × Int × b5 × (List a6)) → Hp → Prop, (∀ s' H', n2 s' H' → t s' H' ∧ g s' < g (p8, l7, c8, d6, c6, c7)) ∧ j8 x0.fn p8 l7 c8 d6 c6 c7 H n2 K := ⟨_, fun _ _ h => h, aq (p8, l7, c8, d6, c6, c7) H (fun s' H' => t s' H' ∧ g s' < g (p8, l7, c8, d6, c6, c7)) ar (fun _ _ a b => ⟨a, b⟩)⟩
 unfold W7
 unfold j8 at h
 simp only [m5]
 refine y4 (D := fun ad j => ∃ (f : Bool) (c : Hp) , ad = (gv l7 true (Value.bool f)) ∧ (Inv w0 ps0 H0 c [bx g0 44 [(Value.string c8), (vi d6), (vi c6.r8), (vi c6.y2), (vs m6)], m0] j) ∧ (∀ i, i < w.heap.size → ¬ inF [] i → j.heap[i]? = w.heap[i]?) ∧ Hle H c ∧ (((l7 && f) = true →
 k8 (a8.mk c8 d6 c6 (Sl.mk none 0 0)) c7 c (fun (d : a8) (k : (List a6)) (au : Hp) =>
 i8 (f6 d) k au (fun (m : Int) (o : Bool) (v : Hp) =>
 n2 (m, o, d.fs, d.fn, d.fat, k) v))) ∧
 ((l7 && f) = false →
 g6 x0.fn c8 d6 c6 c7 c K))) (fun e => ?_) (fun e => ?_) ?_
 ·replace h := h.1 e
  have ae := e
  simp only [j7 ae]
  refine f9 Tryd.call36 h I ?_
  rintro _ c _ j p af ag ⟨f, rfl, rfl, h⟩
  exact ⟨f, c, by rfl, p, ag, af, h⟩
 ·exact ⟨false, H, by rw [J4 e], I, fun _ _ _ => rfl, Hle.refl _, h.2 e⟩
 ·clear h
  rintro ad j ⟨f, c, rfl, p, ag, af, h⟩
  refine a7 (r9 _ _) ?_
  refine m3 h (fun _ h => ?_) (fun _ h => ?_)
  ·refine f9 Tryd.call56 (h g0 m6 m0 p9) ((p.bring 1).bring 1) ?_
   rintro _ _ _ bb av _ _ ⟨d, k, ah, ai, rfl, rfl, aj, h⟩
   refine f9 Tryd.call20 (h g0 ah ai aj) ((av.bring 1).bring 1) ?_
   rintro _ v _ bc aw _ _ ⟨m, o, rfl, rfl, h⟩
   refine a7 (d7 _ _ (Value.int .i32 m) rfl) ?_
   refine a7 (d7 _ _ (Value.bool o) rfl) ?_
   exact hn2 _ _ _ (hm2 _ _ h).2 ⟨(m, o, d.fs, d.fn, d.fat, k), v, ah, ai, rfl, rfl, aj, ((aw.bring 1).bring 1), (hm2 _ _ h).1⟩
  ·exact hx1 _ _ (hj1 c8 d6 c6 c7 m6 m0 c _ p9 ((p.bring 1).bring 1) h)
def t7 (a : a6) (g7 : ByteArray) (g8 : Int) (k9 : b5) (l8 : (List a6)) (b : a6) (H : Hp) (K : a6 → Int → a8 → (List a6) → Hp → Prop) : Prop :=
 K a 0 (a8.mk g7 g8 k9 (Sl.mk none 0 0)) l8 H
def D4 (x0 : a8) (i : (List a6)) (H : Hp) (K : a6 → Int → a8 → (List a6) → Hp → Prop) : Prop :=
 p1 (f6 x0) i H (fun b a c j =>
 t6 b j (fun d e =>
 (d = true →
 t7 (a6.mk 3 b 0 (b5.mk 0 0)) a.fs a.fn a.fat c (a6.mk 0 ⟨#[]⟩ 0 (b5.mk 0 0)) e K) ∧
 (d = false →
 B9 b e (fun f g =>
 (f = true →
 K (a6.mk 1 b 0 (b5.mk 0 0)) 22 (f6 a) c g) ∧
 (f = false →
 t7 (a6.mk 1 b 0 (b5.mk 0 0)) a.fs a.fn a.fat c (a6.mk 0 ⟨#[]⟩ 0 (b5.mk 0 0)) g K)))))
theorem S3 (x0 : a8) (j : (List a6)) {H : Hp} {K : a6 → Int → a8 → (List a6) → Hp → Prop} (h : D4 x0 j H K) : K3 x0 j H K := by
 intro g0 s t u
 refine Ct.of fun w0 w ps0 H0 R E I hR => a6p ?_
 unfold D4 at h
 unfold F41
 refine E6 I Tryd.zeroValue33 (cs := [(vi 0), (Value.string ⟨#[]⟩), (vi 0), (vi 0), (vi 0)]) rfl fun k ac v ad => ?_
 refine f9 Tryd.call37 (h g0 s t u) ((v.bring 2).bring 2) ?_
 rintro _ _ _ ae y _ _ ⟨a, b, d, e, f, rfl, rfl, l, h⟩
 refine a7 (M0 _ _) ?_
 refine E6 y Tryd.zeroValue33 (cs := [(vi 0), (Value.string ⟨#[]⟩), (vi 0), (vi 0), (vi 0)]) rfl fun m af z ag => ?_
 refine o8 z Tryd.sizeOf33 (vs := [(vi 1), (Value.string a), (vi 0), (vi 0), (vi 0)]) (cs' := [(vi 1), (Value.string a), (vi 0), (vi 0), (vi 0)]) rfl rfl (nb rfl) rfl rfl fun ah n ai => ?_
 have hj1 : ∀ (c : a6) (g7 : ByteArray) (g8 : Int) (k9 : b5) (H : Hp) (w : World) (_ : Inv w0 ps0 H0 H [bx m 33 (b6 c), bx g0 44 [(Value.string g7), (vi g8), (vi k9.r8), (vi k9.y2), (vs e)], bx k 33 [(vi (a6.mk 0 ⟨#[]⟩ 0 (b5.mk 0 0)).a5f), (Value.string (a6.mk 0 ⟨#[]⟩ 0 (b5.mk 0 0)).U7), (vi (a6.mk 0 ⟨#[]⟩ 0 (b5.mk 0 0)).a0C), (vi (a6.mk 0 ⟨#[]⟩ 0 (b5.mk 0 0)).fAt.r8), (vi (a6.mk 0 ⟨#[]⟩ 0 (b5.mk 0 0)).fAt.y2)], f] w) (_ : t7 c g7 g8 k9 d (a6.mk 0 ⟨#[]⟩ 0 (b5.mk 0 0)) H K), a1M (Value.pointer (some ⟨k, 0, none⟩)) (Value.pointer (some ⟨m, 0, none⟩)) w R E := by
  intro c g7 g8 k9 H w I h
  unfold a1M
  intro _
  unfold t7 at h
  refine q9 (lW Tryd.isAgg33 Tryd.sizeOf33 rfl I) ?_
  refine o8 (I.bring 2) Tryd.sizeOf33 (vs := (b6 c)) (cs' := (b6 c)) rfl rfl (nb rfl) rfl rfl fun aj p ak => ?_
  refine E5 Tryd.isAgg33 Tryd.sizeOf33 rfl (p.at1 (o := 0) (vs := (b6 c)) (nb rfl) rfl) ?_
  exact hR _ H _ _ ((p.drop.drop.bring 1).bring 1) ⟨c, 0, (a8.mk g7 g8 k9 (Sl.mk none 0 0)), d, e, f, rfl, rfl, l, h⟩
 refine u4 fun j1 hx1 => ?_
 refine a7 K6 ?_
 refine q9 (l1 Tryd.isAgg9 n rfl) ?_
 refine f9 Tryd.call13 h n ?_
 rintro _ aa _ al g _ _ ⟨am, rfl, rfl, h⟩
 refine m3 h (fun _ h => ?_) (fun _ h => ?_)
 ·refine a7 a2X ?_
  refine o8 g Tryd.sizeOf3 (vs := [(vi 3)]) (cs' := [(vi 3), (Value.string a), (vi 0), (vi 0), (vi 0)]) rfl rfl (nb rfl) rfl rfl fun an ab ao => ?_
  exact hx1 _ _ (hj1 (a6.mk 3 a 0 (b5.mk 0 0)) b.fs b.fn b.fat aa _ ((((ab.bring 2).bring 3).bring 3).bring 3) h)
 ·refine a7 K6 ?_
  refine q9 (l1 Tryd.isAgg9 g rfl) ?_
  refine f9 Tryd.call28 h g ?_
  rintro _ q _ ap i _ _ ⟨aq, rfl, rfl, h⟩
  refine m3 h (fun _ h => ?_) (fun _ h => ?_)
  ·refine q9 (ldA Tryd.isAgg33 Tryd.sizeOf33 rfl (i.at1 (o := 0) (vs := [(vi 1), (Value.string a), (vi 0), (vi 0), (vi 0)]) (nb rfl) rfl)) ?_
   refine o8 (i.bring 3) Tryd.sizeOf33 (vs := [(vi 1), (Value.string a), (vi 0), (vi 0), (vi 0)]) (cs' := [(vi 1), (Value.string a), (vi 0), (vi 0), (vi 0)]) rfl rfl (nb rfl) rfl rfl fun ar r au => ?_
   refine E5 Tryd.isAgg33 Tryd.sizeOf33 rfl (r.at1 (o := 0) (vs := [(vi 1), (Value.string a), (vi 0), (vi 0), (vi 0)]) (nb rfl) rfl) ?_
   exact hR _ q _ _ ((r.drop.drop.bring 1).bring 1) ⟨(a6.mk 1 a 0 (b5.mk 0 0)), 22, (f6 b), d, e, f, rfl, rfl, l, h⟩
  ·exact hx1 _ _ (hj1 (a6.mk 1 a 0 (b5.mk 0 0)) b.fs b.fn b.fat q _ ((((i.bring 2).bring 3).bring 3).bring 3) h)
end Go.Proofs.YthklmeihgmcljaaDoor
