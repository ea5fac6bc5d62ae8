/- Typed formulas of the program's functions, and the theorems that the contracts follow from them; printed by lift.py off the code. -/
import Derived.Test.YthklmeihgmcljaaDoorzLV1
namespace Go.Proofs.YthklmeihgmcljaaDoor
open Go.RowKit
set_option maxRecDepth 100000
set_option maxHeartbeats 2000000
def J1 (x0 : ByteArray) (H : Hp) (K : Bool → Hp → Prop) : Prop :=
 u4 x0 H (fun a b =>
 K (decide (32 < a)) b)
theorem W3 (x0 : ByteArray) {H : Hp} {K : Bool → Hp → Prop} (h : J1 x0 H K) : J0 x0 H K := by
 refine Ct.of fun w0 w ps0 H0 R E I hR => a5h ?_
 unfold J1 at h
 unfold F28
 refine j7 Tryd.call50 h I ?_
 rintro _ a _ d b _ _ ⟨c, rfl, rfl, h⟩
 refine a7 (T8 _ _ _ _ _ _) ?_
 exact hR _ a _ _ b ⟨(decide (32 < c)), rfl, rfl, h⟩
def C2 (x0 : a8) (a : (List a6)) (H : Hp) (K : ByteArray → Hp → Prop) : Prop :=
 (0 : Int) ≤ x0.fn ∧ (x0.fn : Int) ≤ x0.fs.size ∧
 K (x0.fs.extract (x0.fn : Int).toNat x0.fs.size) H
theorem P6 (x0 : a8) (b : (List a6)) {H : Hp} {K : ByteArray → Hp → Prop} (h : C2 x0 b H K) : q7 x0 b H K := by
 intro g0 e f g
 refine Ct.of fun w0 w ps0 H0 R E I hR => a5m ?_
 unfold C2 at h
 unfold F39
 refine R8 I fun i a => ?_
 refine o9 (o2 _) ?_
 refine o9 K5 ?_
 refine o9 (o2 _) ?_
 refine o9 u0 ?_
 refine E1 (l1 Tryd.isAgg9 a rfl) ?_
 refine E1 (l1 Tryd.isAgg3 a rfl) ?_
 obtain ⟨c, d, h⟩ := h
 refine o9 (a1H x0.fs Tryd.underlying9 c d) ?_
 exact hR _ H _ _ ((a.bring 1).bring 1) ⟨(x0.fs.extract (x0.fn : Int).toNat x0.fs.size), rfl, rfl, h⟩
def u5 (x0 : ByteArray) (x1 : ByteArray) (H : Hp) (K : Bool → Hp → Prop) : Prop :=
 ((decide ((x1.size : Int) ≤ (x0.size : Int))) = true → (0 : Int) ≤ (x1.size : Int) ∧ ((x1.size : Int) : Int) ≤ x0.size) ∧
 K ((decide ((x1.size : Int) ≤ (x0.size : Int))) && (decide ((x0.extract 0 ((x1.size : Int) : Int).toNat) = x1))) H
theorem J8 (x0 : ByteArray) (x1 : ByteArray) {H : Hp} {K : Bool → Hp → Prop} (h : u5 x0 x1 H K) : C1 x0 x1 H K := by
 refine Ct.of fun w0 w ps0 H0 R E I hR => a5v ?_
 unfold u5 at h
 unfold F57
 refine a7 (L4 _) ?_
 refine a7 (L4 _) ?_
 refine a7 (a4Q _ _ _ _ _ _) ?_
 simp only [s7]
 refine a7 (Pu.g fun hb => by have a := hb; simp only [m1 a]; with_reducible exact (L4 _)) ?_
 obtain ⟨b, h⟩ := h
 refine a7 (Pu.g fun hb => by have a := hb; simp only [m1 a]; with_reducible exact (a1I x0 Tryd.underlying9 (b hb).1 (b hb).2)) ?_
 refine a7 (Pu.g fun hb => by have a := hb; simp only [m1 a]; with_reducible exact (C0 _ _ _ _ _)) ?_
 refine a7 (A6 _ _) ?_
 exact hR _ H _ _ I ⟨((decide ((x1.size : Int) ≤ (x0.size : Int))) && (decide ((x0.extract 0 ((x1.size : Int) : Int).toNat) = x1))), rfl, rfl, h⟩
def C3 (x0 : a8) (a : (List a6)) (H : Hp) (K : a8 → (List a6) → Hp → Prop) : Prop :=
 q7 (f7 x0) a H (fun e f =>
 t8 e f (fun b c d =>
 (b = 10 →
 K (a8.mk x0.fs (IntKind.wrap .i64 (x0.fn + c)) (b6.mk (IntKind.wrap .i64 (x0.fat.o4 + 1)) 1) (Sl.mk none 0 0)) a d) ∧
 (¬ (b = 10) →
 K (a8.mk x0.fs (IntKind.wrap .i64 (x0.fn + c)) (b6.mk x0.fat.o4 (IntKind.wrap .i64 (x0.fat.s6 + 1))) (Sl.mk none 0 0)) a d)))
theorem P7 (x0 : a8) (c : (List a6)) {H : Hp} {K : a8 → (List a6) → Hp → Prop} (h : C3 x0 c H K) : j8 x0 c H K := by
 intro g0 b d e
 refine Ct.of fun w0 w ps0 H0 R E I hR => a5u ?_
 unfold C3 at h
 unfold F56
 refine j7 Tryd.call39 (h g0 b d e) ((I.bring 1).bring 1) ?_
 rintro _ n _ o k _ _ ⟨p, rfl, rfl, h⟩
 refine j7 Tryd.call33 h k ?_
 rintro _ g _ q i _ _ ⟨l, a, rfl, rfl, h⟩
 refine a7 (d8 _ _ (Value.int .i32 l) rfl) ?_
 refine a7 (d8 _ _ (vi a) rfl) ?_
 refine a7 (o2 _) ?_
 refine a7 u0 ?_
 refine o5 (l1 Tryd.isAgg3 i rfl) ?_
 refine a7 (G6 _ _ _ _ _ _) ?_
 refine a7 (o2 _) ?_
 refine a7 u0 ?_
 refine o3 i Tryd.sizeOf3 (vs := [(vi (IntKind.wrap .i64 (x0.fn + a)))]) (cs' := [(Value.string x0.fs), (vi (IntKind.wrap .i64 (x0.fn + a))), (vi x0.fat.o4), (vi x0.fat.s6), (vs b)]) rfl rfl (nb rfl) rfl rfl fun r j s => ?_
 refine a7 (o2 _) ?_
 refine a7 H8 ?_
 refine a7 Y9 ?_
 refine o5 (l1 Tryd.isAgg3 j rfl) ?_
 refine a7 (G6 _ _ _ _ _ _) ?_
 refine a7 (o2 _) ?_
 refine a7 H8 ?_
 refine a7 Y9 ?_
 refine o3 j Tryd.sizeOf3 (vs := [(vi (IntKind.wrap .i64 (x0.fat.s6 + 1)))]) (cs' := [(Value.string x0.fs), (vi (IntKind.wrap .i64 (x0.fn + a))), (vi x0.fat.o4), (vi (IntKind.wrap .i64 (x0.fat.s6 + 1))), (vs b)]) rfl rfl (nb rfl) rfl rfl fun t f u => ?_
 refine a7 (l8 _ _ _ _ _ _) ?_
 refine k7 h (fun _ h => ?_) (fun _ h => ?_)
 ·refine a7 (o2 _) ?_
  refine a7 H8 ?_
  refine a7 a2g ?_
  refine o5 (l1 Tryd.isAgg3 f rfl) ?_
  refine a7 (G6 _ _ _ _ _ _) ?_
  refine a7 (F1 _ _) ?_
  refine a7 (o2 _) ?_
  refine a7 H8 ?_
  refine o3 f Tryd.sizeOf25 (vs := [(vi (IntKind.wrap .i64 (x0.fat.o4 + 1))), (vi 1)]) (cs' := [(Value.string x0.fs), (vi (IntKind.wrap .i64 (x0.fn + a))), (vi (IntKind.wrap .i64 (x0.fat.o4 + 1))), (vi 1), (vs b)]) rfl rfl (nb rfl) rfl rfl fun v m y => ?_
  exact hR _ g _ _ ((m.bring 1).bring 1) ⟨(a8.mk x0.fs (IntKind.wrap .i64 (x0.fn + a)) (b6.mk (IntKind.wrap .i64 (x0.fat.o4 + 1)) 1) (Sl.mk none 0 0)), c, b, d, rfl, rfl, e, h⟩
 ·exact hR _ g _ _ ((f.bring 1).bring 1) ⟨(a8.mk x0.fs (IntKind.wrap .i64 (x0.fn + a)) (b6.mk x0.fat.o4 (IntKind.wrap .i64 (x0.fat.s6 + 1))) (Sl.mk none 0 0)), c, b, d, rfl, rfl, e, h⟩
def y5 (x0 : Int) (H : Hp) (K : Bool → Hp → Prop) : Prop :=
 r9 x0 H (fun a b =>
 K ((decide (a = 1)) || (decide (a = 2))) b)
theorem L5 (x0 : Int) {H : Hp} {K : Bool → Hp → Prop} (h : y5 x0 H K) : y3 x0 H K := by
 refine Ct.of fun w0 w ps0 H0 R E I hR => a5k ?_
 unfold y5 at h
 unfold F36
 refine j7 Tryd.call30 h I ?_
 rintro _ c _ e d _ _ ⟨b, rfl, rfl, h⟩
 refine a7 (l8 _ _ _ _ _ _) ?_
 simp only [s7]
 refine a7 (Pu.g fun hb => by have a := hb; simp only [m1 a]; with_reducible exact (l8 _ _ _ _ _ _)) ?_
 refine a7 (Q3 _ _) ?_
 exact hR _ c _ _ d ⟨((decide (b = 1)) || (decide (b = 2))), rfl, rfl, h⟩
def f9 (u7 : Int) (g5 : ByteArray) (g6 : Int) (j9 : b6) (k9 : (List a6)) (H : Hp) (K : ByteArray → a8 → (List a6) → Hp → Prop) : Prop :=
 (0 : Int) ≤ u7 ∧ (u7 : Int) ≤ g6 ∧ (g6 : Int) ≤ g5.size ∧
 K (g5.extract (u7 : Int).toNat (g6 : Int).toNat) (a8.mk g5 g6 j9 (Sl.mk none 0 0)) k9 H
def i6 (X2 : Int) (p5 : Int) (k8 : Bool) (c8 : ByteArray) (d6 : Int) (c6 : b6) (c7 : (List a6)) (H : Hp) (n2 : (Int × Bool × ByteArray × Int × b6 × (List a6)) → Hp → Prop) (K : ByteArray → a8 → (List a6) → Hp → Prop) : Prop :=
 TG (k8 = true) (y3 p5 H) false H (fun (b : Bool) (c : Hp) =>
 ((k8 && b) = true →
 j8 (a8.mk c8 d6 c6 (Sl.mk none 0 0)) c7 c (fun a d e =>
 g9 (f7 a) d e (fun f g i =>
 n2 (f, g, a.fs, a.fn, a.fat, d) i))) ∧
 ((k8 && b) = false →
 f9 X2 c8 d6 c6 c7 c K))
def m5 (x0 : a8) (a : (List a6)) (H : Hp) (K : ByteArray → a8 → (List a6) → Hp → Prop) : Prop :=
 g9 (f7 x0) a H (fun b c d =>
 TL ((b, c, x0.fs, x0.fn, x0.fat, a) : Int × Bool × ByteArray × Int × b6 × (List a6)) d fun (s : Int × Bool × ByteArray × Int × b6 × (List a6)) H n2 => i6 x0.fn s.1 s.2.1 s.2.2.1 s.2.2.2.1 s.2.2.2.2.1 s.2.2.2.2.2 H n2 K)
theorem z1 (x0 : a8) (q : (List a6)) {H : Hp} {K : ByteArray → a8 → (List a6) → Hp → Prop} (h : m5 x0 q H K) : l9 x0 q H K := by
 intro g0 y z aa
 refine Ct.of fun w0 w ps0 H0 R E I hR => Z0 ?_
 unfold m5 at h
 unfold F37
 refine a7 (o2 _) ?_
 refine a7 u0 ?_
 refine o5 (l1 Tryd.isAgg3 I rfl) ?_
 have hj1 : ∀ (g5 : ByteArray) (g6 : Int) (j9 : b6) (k9 : (List a6)) (q9 : Sl) (m9 : Frag) (H : Hp) (w : World) (_ : RowL 33 5 b7 q9 k9 m9) (_ : Inv w0 ps0 H0 H [bx g0 44 [(Value.string g5), (vi g6), (vi j9.o4), (vi j9.s6), (vs q9)], m9] w) (_ : f9 x0.fn g5 g6 j9 k9 H K), K6 (Value.pointer (some ⟨g0, 0, none⟩)) (vi x0.fn) w R E := by
  intro g5 g6 j9 k9 q9 m9 H w D7 I h
  unfold K6
  intro _
  unfold f9 at h
  refine R8 I fun ax r => ?_
  refine o9 (o2 _) ?_
  refine o9 K5 ?_
  refine o9 (o2 _) ?_
  refine o9 u0 ?_
  refine E1 (l1 Tryd.isAgg9 r rfl) ?_
  refine E1 (l1 Tryd.isAgg3 r rfl) ?_
  obtain ⟨ak, al, am, h⟩ := h
  refine o9 (R9 g5 Tryd.underlying9 ak al am) ?_
  exact hR _ H _ _ ((r.bring 1).bring 1) ⟨(g5.extract (x0.fn : Int).toNat (g6 : Int).toNat), (a8.mk g5 g6 j9 (Sl.mk none 0 0)), k9, q9, m9, rfl, rfl, D7, h⟩
 refine A7 fun j1 hx1 => ?_
 refine j7 Tryd.call20 (h g0 y z aa) ((I.bring 1).bring 1) ?_
 rintro _ an _ ay ao _ _ ⟨ab, ac, rfl, rfl, h⟩
 refine a7 (d8 _ _ (Value.int .i32 ab) rfl) ?_
 refine a7 (d8 _ _ (Value.bool ac) rfl) ?_
 obtain ⟨t, g, ap, aq⟩ := h
 refine D2 (J := fun n l w => ∃ (s : Int × Bool × ByteArray × Int × b6 × (List a6)) (H : Hp) (m2 : Sl) (l7 : Frag) , n = g s ∧ l = (match s with | (p5, k8, c8, d6, c6, c7) => [(Value.int .i32 p5), (Value.bool k8)]) ∧ (match s with | (p5, k8, c8, d6, c6, c7) => RowL 33 5 b7 m2 c7 l7) ∧ (match s with | (p5, k8, c8, d6, c6, c7) => Inv w0 ps0 H0 H [bx g0 44 [(Value.string c8), (vi d6), (vi c6.o4), (vi c6.s6), (vs m2)], l7] w) ∧ t s H) ⟨_, (ab, ac, x0.fs, x0.fn, x0.fat, q), an, y, z, rfl, rfl, aa, ((ao.bring 1).bring 1), ap⟩ ?_
 rintro az ba w next2 ⟨⟨p5, k8, c8, d6, c6, c7⟩, H, m2, l7, rfl, u, p6, I, ar⟩ hn2
 dsimp only at u I p6
 simp only [List.map_cons, List.map_nil, List.cons.injEq, and_true] at u
 obtain ⟨e6, e7⟩ := u
 simp only [e6, e7]
 obtain ⟨n2, hm2, h⟩ : ∃ n2 : (Int × Bool × ByteArray × Int × b6 × (List a6)) → Hp → Prop, (∀ s' H', n2 s' H' → t s' H' ∧ g s' < g (p5, k8, c8, d6, c6, c7)) ∧ i6 x0.fn p5 k8 c8 d6 c6 c7 H n2 K := ⟨_, fun _ _ h => h, aq (p5, k8, c8, d6, c6, c7) H (fun s' H' => t s' H' ∧ g s' < g (p5, k8, c8, d6, c6, c7)) ar (fun _ _ a b => ⟨a, b⟩)⟩
 unfold U2
 unfold i6 at h
 simp only [s7]
 refine U1 (D := fun ad j => ∃ (f : Bool) (c : Hp) , ad = (gv k8 true (Value.bool f)) ∧ (Inv w0 ps0 H0 c [bx g0 44 [(Value.string c8), (vi d6), (vi c6.o4), (vi c6.s6), (vs m2)], l7] j) ∧ (∀ i, i < w.heap.size → ¬ inF [] i → j.heap[i]? = w.heap[i]?) ∧ Hle H c ∧ (((k8 && f) = true →
 j8 (a8.mk c8 d6 c6 (Sl.mk none 0 0)) c7 c (fun (d : a8) (k : (List a6)) (au : Hp) =>
 g9 (f7 d) k au (fun (m : Int) (o : Bool) (v : Hp) =>
 n2 (m, o, d.fs, d.fn, d.fat, k) v))) ∧
 ((k8 && f) = false →
 f9 x0.fn c8 d6 c6 c7 c K))) (fun e => ?_) (fun e => ?_) ?_
 ·replace h := h.1 e
  have ae := e
  simp only [m1 ae]
  refine j7 Tryd.call36 h I ?_
  rintro _ c _ j p af ag ⟨f, rfl, rfl, h⟩
  exact ⟨f, c, by rfl, p, ag, af, h⟩
 ·exact ⟨false, H, by rw [a0P e], I, fun _ _ _ => rfl, Hle.refl _, h.2 e⟩
 ·clear h
  rintro ad j ⟨f, c, rfl, p, ag, af, h⟩
  refine a7 (A6 _ _) ?_
  refine o6 h (fun _ h => ?_) (fun _ h => ?_)
  ·refine j7 Tryd.call56 (h g0 m2 l7 p6) ((p.bring 1).bring 1) ?_
   rintro _ _ _ bb av _ _ ⟨d, k, ah, ai, rfl, rfl, aj, h⟩
   refine j7 Tryd.call20 (h g0 ah ai aj) ((av.bring 1).bring 1) ?_
   rintro _ v _ bc aw _ _ ⟨m, o, rfl, rfl, h⟩
   refine a7 (d8 _ _ (Value.int .i32 m) rfl) ?_
   refine a7 (d8 _ _ (Value.bool o) rfl) ?_
   exact hn2 _ _ _ (hm2 _ _ h).2 ⟨(m, o, d.fs, d.fn, d.fat, k), v, ah, ai, rfl, rfl, aj, ((aw.bring 1).bring 1), (hm2 _ _ h).1⟩
  ·exact hx1 _ _ (hj1 c8 d6 c6 c7 m2 l7 c _ p6 ((p.bring 1).bring 1) h)
def s8 (a : a6) (g5 : ByteArray) (g6 : Int) (j9 : b6) (k9 : (List a6)) (b : a6) (H : Hp) (K : a6 → Int → a8 → (List a6) → Hp → Prop) : Prop :=
 K a 0 (a8.mk g5 g6 j9 (Sl.mk none 0 0)) k9 H
def C4 (x0 : a8) (i : (List a6)) (H : Hp) (K : a6 → Int → a8 → (List a6) → Hp → Prop) : Prop :=
 o7 (f7 x0) i H (fun b a c j =>
 I0 b j (fun d e =>
 (d = true →
 s8 (a6.mk 3 b 0 (b6.mk 0 0)) a.fs a.fn a.fat c (a6.mk 0 ⟨#[]⟩ 0 (b6.mk 0 0)) e K) ∧
 (d = false →
 J0 b e (fun f g =>
 (f = true →
 K (a6.mk 1 b 0 (b6.mk 0 0)) 22 (f7 a) c g) ∧
 (f = false →
 s8 (a6.mk 1 b 0 (b6.mk 0 0)) a.fs a.fn a.fat c (a6.mk 0 ⟨#[]⟩ 0 (b6.mk 0 0)) g K)))))
theorem P8 (x0 : a8) (j : (List a6)) {H : Hp} {K : a6 → Int → a8 → (List a6) → Hp → Prop} (h : C4 x0 j H K) : G7 x0 j H K := by
 intro g0 s t u
 refine Ct.of fun w0 w ps0 H0 R E I hR => a5o ?_
 unfold C4 at h
 unfold F41
 refine B5 I Tryd.zeroValue33 (cs := [(vi 0), (Value.string ⟨#[]⟩), (vi 0), (vi 0), (vi 0)]) rfl fun k ac v ad => ?_
 refine j7 Tryd.call37 (h g0 s t u) ((v.bring 2).bring 2) ?_
 rintro _ _ _ ae y _ _ ⟨a, b, d, e, f, rfl, rfl, l, h⟩
 refine a7 (J6 _ _) ?_
 refine B5 y Tryd.zeroValue33 (cs := [(vi 0), (Value.string ⟨#[]⟩), (vi 0), (vi 0), (vi 0)]) rfl fun m af z ag => ?_
 refine o3 z Tryd.sizeOf33 (vs := [(vi 1), (Value.string a), (vi 0), (vi 0), (vi 0)]) (cs' := [(vi 1), (Value.string a), (vi 0), (vi 0), (vi 0)]) rfl rfl (nb rfl) rfl rfl fun ah n ai => ?_
 have hj1 : ∀ (c : a6) (g5 : ByteArray) (g6 : Int) (j9 : b6) (H : Hp) (w : World) (_ : Inv w0 ps0 H0 H [bx m 33 (b7 c), bx g0 44 [(Value.string g5), (vi g6), (vi j9.o4), (vi j9.s6), (vs e)], bx k 33 [(vi (a6.mk 0 ⟨#[]⟩ 0 (b6.mk 0 0)).Y6), (Value.string (a6.mk 0 ⟨#[]⟩ 0 (b6.mk 0 0)).M8), (vi (a6.mk 0 ⟨#[]⟩ 0 (b6.mk 0 0)).S0), (vi (a6.mk 0 ⟨#[]⟩ 0 (b6.mk 0 0)).fAt.o4), (vi (a6.mk 0 ⟨#[]⟩ 0 (b6.mk 0 0)).fAt.s6)], f] w) (_ : s8 c g5 g6 j9 d (a6.mk 0 ⟨#[]⟩ 0 (b6.mk 0 0)) H K), a1c (Value.pointer (some ⟨k, 0, none⟩)) (Value.pointer (some ⟨m, 0, none⟩)) w R E := by
  intro c g5 g6 j9 H w I h
  unfold a1c
  intro _
  unfold s8 at h
  refine o5 (lW Tryd.isAgg33 Tryd.sizeOf33 rfl I) ?_
  refine o3 (I.bring 2) Tryd.sizeOf33 (vs := (b7 c)) (cs' := (b7 c)) rfl rfl (nb rfl) rfl rfl fun aj p ak => ?_
  refine D1 Tryd.isAgg33 Tryd.sizeOf33 rfl (p.at1 (o := 0) (vs := (b7 c)) (nb rfl) rfl) ?_
  exact hR _ H _ _ ((p.drop.drop.bring 1).bring 1) ⟨c, 0, (a8.mk g5 g6 j9 (Sl.mk none 0 0)), d, e, f, rfl, rfl, l, h⟩
 refine A7 fun j1 hx1 => ?_
 refine a7 H5 ?_
 refine o5 (l1 Tryd.isAgg9 n rfl) ?_
 refine j7 Tryd.call13 h n ?_
 rintro _ aa _ al g _ _ ⟨am, rfl, rfl, h⟩
 refine o6 h (fun _ h => ?_) (fun _ h => ?_)
 ·refine a7 a2f ?_
  refine o3 g Tryd.sizeOf3 (vs := [(vi 3)]) (cs' := [(vi 3), (Value.string a), (vi 0), (vi 0), (vi 0)]) rfl rfl (nb rfl) rfl rfl fun an ab ao => ?_
  exact hx1 _ _ (hj1 (a6.mk 3 a 0 (b6.mk 0 0)) b.fs b.fn b.fat aa _ ((((ab.bring 2).bring 3).bring 3).bring 3) h)
 ·refine a7 H5 ?_
  refine o5 (l1 Tryd.isAgg9 g rfl) ?_
  refine j7 Tryd.call28 h g ?_
  rintro _ q _ ap i _ _ ⟨aq, rfl, rfl, h⟩
  refine o6 h (fun _ h => ?_) (fun _ h => ?_)
  ·refine o5 (ldA Tryd.isAgg33 Tryd.sizeOf33 rfl (i.at1 (o := 0) (vs := [(vi 1), (Value.string a), (vi 0), (vi 0), (vi 0)]) (nb rfl) rfl)) ?_
   refine o3 (i.bring 3) Tryd.sizeOf33 (vs := [(vi 1), (Value.string a), (vi 0), (vi 0), (vi 0)]) (cs' := [(vi 1), (Value.string a), (vi 0), (vi 0), (vi 0)]) rfl rfl (nb rfl) rfl rfl fun ar r au => ?_
   refine D1 Tryd.isAgg33 Tryd.sizeOf33 rfl (r.at1 (o := 0) (vs := [(vi 1), (Value.string a), (vi 0), (vi 0), (vi 0)]) (nb rfl) rfl) ?_
   exact hR _ q _ _ ((r.drop.drop.bring 1).bring 1) ⟨(a6.mk 1 a 0 (b6.mk 0 0)), 22, (f7 b), d, e, f, rfl, rfl, l, h⟩
  ·exact hx1 _ _ (hj1 (a6.mk 1 a 0 (b6.mk 0 0)) b.fs b.fn b.fat q _ ((((i.bring 2).bring 3).bring 3).bring 3) h)
end Go.Proofs.YthklmeihgmcljaaDoor
