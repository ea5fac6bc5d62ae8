/- Typed formulas of the program's functions, and the theorems that the contracts follow from them; printed by lift.py off the code. -/
import Derived.Test.YtaokfhdinhimfaaDooryAV1
namespace Go.Proofs.YtaokfhdinhimfaaDoor
open Go.RowKit
set_option maxRecDepth 100000
set_option maxHeartbeats 2000000
def S1 (a0S : Int) (a8c : (List ByteArray)) (b : m1) (H : Hp) (K : Sl → Int → Hp → Prop) : Prop :=
 ∀ (a3h : Sl) (a : Hp), Hle H a → SlH a 1 s6 a3h a8c → a3h.n ≤ a3h.c →
 K a3h a0S a
def S2 (a1K : Int) (b4T : Sl) (b4U : Int) (b : m1) (a0A : (List ByteArray)) (a0b : Int) (H : Hp) (n2 : ((List ByteArray) × Int) → Hp → Prop) (K : Sl → Int → Hp → Prop) : Prop :=
 (a0b < b4U →
 (0 : Int) ≤ a0b ∧ (a0b : Int) < b4T.n ∧ ∃ a : j6, EltH H b4T a0b 2 (f3 a) ∧
 (a0A.length + ([a.d8] : List ByteArray).length) * 17 ≤ 140737488355328 ∧
 n2 ((a0A ++ [a.d8]), (IntKind.wrap .i64 (a0b + 1))) H) ∧
 (¬ (a0b < b4U) →
 S1 a1K a0A b H K)
def a1j (x0 : m1) (H : Hp) (K : Sl → Int → Hp → Prop) : Prop :=
 a2d x0 1 H (fun a b c =>
 TL (([], 0) : (List ByteArray) × Int) c fun (s : (List ByteArray) × Int) H n2 => S2 b a (a.n : Int) x0 s.1 s.2 H n2 K)
theorem a6F (x0 : m1) {H : Hp} {K : Sl → Int → Hp → Prop} (h : a1j x0 H K) : a3l x0 H K := by
 refine Ct.of fun w0 w ps0 H0 R E I hR => b6u ?_
 unfold a1j at h
 unfold F10
 refine C1 I (cs := (m0 x0)) rfl fun m ap o aq => ?_
 refine d3 (lW Tryd.isAgg41 Tryd.sizeOf41 rfl o) ?_
 refine d9 Tryd.call18 h o ?_
 rintro _ u _ ar v _ _ ⟨p, d, rfl, rfl, h⟩
 refine c5 (g9 _ _ _ rfl) ?_
 refine c5 (g9 _ _ (vi d) rfl) ?_
 have hj1 : ∀ (a8c : (List ByteArray)) (a3h : Sl) (Fs6j1 : Frag) (H : Hp) (w : World) (_ : RowL 9 1 s6 a3h a8c Fs6j1) (_ : Inv w0 ps0 H0 H [bx m 41 (m0 x0), Fs6j1] w) (_ : S1 d a8c x0 H K), a9R (vi d) (vs a3h) w R E := by
  intro a8c a3h Fs6j1 H w b8w I h
  unfold a9R
  intro _
  unfold S1 at h
  obtain ⟨q, y, z, aa, ab⟩ := Inv.freezeC (I.bring 1) b8w (by decide)
  replace h := h a3h q z aa ab
  exact hR _ q _ _ y.drop ⟨a3h, d, rfl, rfl, h⟩
 refine r5 fun j1 hx1 => ?_
 refine c5 (a4G _ _ _) ?_
 obtain ⟨i, f, ac, ad⟩ := h
 refine G5 (J := fun n l w => ∃ (s : (List ByteArray) × Int) (H : Hp) (a8d : Sl) (Fs6l2 : Frag) , n = f s ∧ l = (match s with | (a0A, a0b) => [(vs a8d), (vi a0b)]) ∧ (match s with | (a0A, a0b) => RowL 9 1 s6 a8d a0A Fs6l2) ∧ (match s with | (a0A, a0b) => Inv w0 ps0 H0 H [bx m 41 (m0 x0), Fs6l2] w) ∧ i s H) ⟨_, ([], 0), u, (Sl.mk none 0 0), [], rfl, rfl, (RowL.nil a3e a3f), (v.nil.bring 1), ac⟩ ?_
 rintro au av w next2 ⟨⟨a0A, a0b⟩, H, a8d, Fs6l2, rfl, j, b2c, I, ae⟩ hn2
 dsimp only at j I b2c
 simp only [List.map_cons, List.map_nil, List.cons.injEq, and_true] at j
 obtain ⟨e6, e16⟩ := j
 simp only [e6, e16]
 obtain ⟨n2, hm2, h⟩ : ∃ n2 : ((List ByteArray) × Int) → Hp → Prop, (∀ s' H', n2 s' H' → i s' H' ∧ f s' < f (a0A, a0b)) ∧ S2 d p (p.n : Int) x0 a0A a0b H n2 K := ⟨_, fun _ _ h => h, ad (a0A, a0b) H (fun s' H' => i s' H' ∧ f s' < f (a0A, a0b)) ae (fun _ _ a b => ⟨a, b⟩)⟩
 unfold b2T
 unfold S2 at h
 refine c5 (D1 _ _ _ _ _ _) ?_
 refine d7 h (fun _ h => ?_) (fun _ h => ?_)
 ·obtain ⟨af, ag, g, k, h⟩ := h
  obtain ⟨aw, ax, ah, k⟩ := k
  refine c5 (a1Z ah _ _ _ _ af ag) ?_
  refine d3 (ldA (vs := (f3 g)) Tryd.isAgg35 Tryd.sizeOf35 rfl (I.atH k)) ?_
  refine q9 I Tryd.zeroValue35 (cs := [(Value.string ⟨#[]⟩), (vi 0)]) rfl fun ay az ai ba => ?_
  refine s9 ai Tryd.sizeOf35 (vs := (f3 g)) fun bb r bc => ?_
  refine c5 Y8 ?_
  refine d3 (l1 Tryd.isAgg9 r rfl) ?_
  refine a0p (e := 9) (c := s6) (xs := [g.d8]) r (b1q _) rfl rfl a3e a3f (nb rfl) fun bd be bf aj t bg => ?_
  obtain ⟨ak, h⟩ := h
  refine b2L (s := a8d) (xs := a0A) (t.bring 3) b2c (aj.srcO ((t.bring 3).bring 1)) ak fun al am bh an ao bi => ?_
  refine c5 (s8 _ _ _ _ _ _) ?_
  exact hn2 _ _ _ (hm2 _ _ h).2 ⟨((a0A ++ [g.d8]), (IntKind.wrap .i64 (a0b + 1))), H, al, am, rfl, rfl, an, (((ao.bring 1).drop.bring 1).drop.bring 1), (hm2 _ _ h).1⟩
 ·exact hx1 _ _ (hj1 a0A a8d Fs6l2 H _ b2c ((I.bring 1).bring 1) h)
def T3 (x0 : d2) (a : (List c8)) (H : Hp) (K : Int → d2 → (List c8) → Hp → Prop) : Prop :=
 K (IntKind.wrap .i64 ((IntKind.wrap .i64 (x0.fc.A9 + 1)) - 1)) (d2.mk (C0.mk x0.fc.u9 x0.fc.J7 x0.fc.A7 (IntKind.wrap .i64 (x0.fc.A9 + 1)) x0.fc.C2 (Sl.mk none 0 0)) x0.fvars x0.farrays) a H
theorem a3H (x0 : d2) (a : (List c8)) {H : Hp} {K : Int → d2 → (List c8) → Hp → Prop} (h : T3 x0 a H K) : r8 x0 a H K := by
 intro g0 c d e
 refine Ct.of fun w0 w ps0 H0 R E I hR => b6w ?_
 unfold T3 at h
 unfold F12
 refine c5 (m5 _) ?_
 refine c5 E0 ?_
 refine c5 a2s ?_
 refine d3 (l1 Tryd.isAgg3 I rfl) ?_
 refine c5 (s8 _ _ _ _ _ _) ?_
 refine c5 (m5 _) ?_
 refine c5 E0 ?_
 refine c5 a2s ?_
 refine N8 I Tryd.sizeOf3 fun f b g => ?_
 refine c5 (m5 _) ?_
 refine c5 E0 ?_
 refine c5 a2s ?_
 refine d3 (l1 Tryd.isAgg3 b rfl) ?_
 refine c5 (a6w _ _ _ _ _ _) ?_
 exact hR _ H _ _ ((b.bring 1).bring 1) ⟨(IntKind.wrap .i64 ((IntKind.wrap .i64 (x0.fc.A9 + 1)) - 1)), (d2.mk (C0.mk x0.fc.u9 x0.fc.J7 x0.fc.A7 (IntKind.wrap .i64 (x0.fc.A9 + 1)) x0.fc.C2 (Sl.mk none 0 0)) x0.fvars x0.farrays), a, c, d, rfl, rfl, e, h⟩
def a3L (x0 : Int) (x1 : Int) (x2 : Int) (H : Hp) (K : c8 → Hp → Prop) : Prop :=
 O2 H (fun a b =>
 O2 b (fun c d =>
 K (c8.mk x0 x1 x2 (-1) (-1) 0 a c) d))
theorem a7n (x0 : Int) (x1 : Int) (x2 : Int) {H : Hp} {K : c8 → Hp → Prop} (h : a3L x0 x1 x2 H K) : B6 x0 x1 x2 H K := by
 refine Ct.of fun w0 w ps0 H0 R E I hR => b6G ?_
 unfold a3L at h
 unfold F29
 refine q9 I Tryd.zeroValue46 (cs := [(vi 0), (vi 0), (vi 0), (vi 0), (vi 0), (vi 0), (vi 0), (vi 0), (vi 0), (vi 0)]) rfl fun i j d k => ?_
 refine d9 Tryd.call39 h d ?_
 rintro _ _ _ l e _ _ ⟨a, rfl, rfl, h⟩
 refine d9 Tryd.call39 h e ?_
 rintro _ f _ m g _ _ ⟨b, rfl, rfl, h⟩
 refine c5 (a4B _ _ _ _ _ _ _ _ _) ?_
 refine s9 g Tryd.sizeOf46 (vs := [(vi x0), (vi x1), (vi x2), (vi (-1)), (vi (-1)), (vi 0), (vi a.G1), (vi a.y8), (vi b.G1), (vi b.y8)]) fun n c o => ?_
 refine R9 Tryd.isAgg46 Tryd.sizeOf46 rfl c ?_
 exact hR _ f _ _ c.drop ⟨(c8.mk x0 x1 x2 (-1) (-1) 0 a b), rfl, rfl, h⟩
def P9 (x0 : d2) (a : (List c8)) (x1 : i5) (x2 : Int) (x3 : Int) (H : Hp) (K : j8 → Int → d2 → (List c8) → Hp → Prop) : Prop :=
 L8 (c6 x0) a x1 H (fun f b c =>
 (b = true →
 K f x2 (c6 x0) a c) ∧
 (b = false →
 r8 (c6 x0) a c (fun d g i j =>
 U2 (c6 g) i x3 j (fun e k l m =>
 M9 (c6 k) l x1 e x2 d x3 m (fun n o p =>
 K (j8.mk e 0) d (c6 n) o p)))))
theorem a2T (x0 : d2) (b : (List c8)) (x1 : i5) (x2 : Int) (x3 : Int) {H : Hp} {K : j8 → Int → d2 → (List c8) → Hp → Prop} (h : P9 x0 b x1 x2 x3 H K) : E2 x0 b x1 x2 x3 H K := by
 intro g0 c d e
 refine Ct.of fun w0 w ps0 H0 R E I hR => b6T ?_
 unfold P9 at h
 unfold F47
 refine C1 I (cs := (f6 x1)) rfl fun al am n an => ?_
 refine q9 n Tryd.zeroValue44 (cs := [(vi 0), (vi 0)]) rfl fun ao ap j aq => ?_
 refine d3 (lW Tryd.isAgg25 Tryd.sizeOf25 rfl (j.bring 1)) ?_
 refine d9 Tryd.call45 (h g0 c d e) ((j.bring 3).bring 3) ?_
 rintro _ p _ ar q _ _ ⟨f, r, rfl, rfl, h⟩
 refine c5 (g9 _ _ _ rfl) ?_
 refine c5 (g9 _ _ (Value.bool r) rfl) ?_
 refine q9 q Tryd.zeroValue44 (cs := [(vi 0), (vi 0)]) rfl fun au av s aw => ?_
 refine s9 s Tryd.sizeOf44 (vs := (m4 f)) fun ax g ay => ?_
 refine s7 h (fun _ h => ?_) (fun _ h => ?_)
 ·refine d3 (lW Tryd.isAgg44 Tryd.sizeOf44 rfl g) ?_
  refine s9 (g.bring 3) Tryd.sizeOf44 (vs := (m4 f)) fun az k ba => ?_
  refine R9 Tryd.isAgg44 Tryd.sizeOf44 rfl k ?_
  exact hR _ p _ _ (((k.drop.drop.bring 2).drop.bring 1).bring 1) ⟨f, x2, (c6 x0), b, c, d, rfl, rfl, e, h⟩
 ·refine d9 Tryd.call12 (h g0 c d e) ((g.bring 2).bring 2) ?_
  rintro _ _ _ bb t _ _ ⟨u, bc, bd, v, y, rfl, rfl, z, h⟩
  refine d9 Tryd.call53 (h g0 v y z) ((t.bring 1).bring 1) ?_
  rintro _ _ _ be aa _ _ ⟨a, bf, bg, ab, ac, rfl, rfl, ad, h⟩
  refine c5 (a1Q _) ?_
  refine q9 aa Tryd.zeroValue44 (cs := [(vi 0), (vi 0)]) rfl fun bh bi ae bj => ?_
  refine s9 ae Tryd.sizeOf44 (vs := [(vi a), (vi 0)]) fun bk i bl => ?_
  refine d3 (lW Tryd.isAgg25 Tryd.sizeOf25 rfl (i.bring 5)) ?_
  refine c5 a7U ?_
  refine d3 (l1 Tryd.isAgg3 i rfl) ?_
  refine d9 Tryd.call46 (h g0 ab ac ad) ((i.bring 2).bring 2) ?_
  rintro _ af _ bm l _ _ ⟨ag, ah, ai, aj, rfl, rfl, ak, h⟩
  refine d3 (ldA Tryd.isAgg44 Tryd.sizeOf44 rfl ((l.bring 2).at1 (o := 0) (vs := [(vi a), (vi 0)]) (nb rfl) rfl)) ?_
  refine s9 (l.bring 4) Tryd.sizeOf44 (vs := [(vi a), (vi 0)]) fun bn m bo => ?_
  refine R9 Tryd.isAgg44 Tryd.sizeOf44 rfl m ?_
  exact hR _ af _ _ (((((m.drop.bring 2).drop.bring 2).drop.bring 2).drop.bring 1).bring 1) ⟨(j8.mk a 0), u, (c6 ag), ah, ai, aj, rfl, rfl, ak, h⟩
def a0B (x0 : j6) (H : Hp) (K : c7 → Hp → Prop) : Prop :=
 K (c7.B2 (K4.mk x0)) H
theorem a5O (x0 : j6) {H : Hp} {K : c7 → Hp → Prop} (h : a0B x0 H K) : a2y x0 H K := by
 refine Ct.of fun w0 w ps0 H0 R E I hR => b7d ?_
 unfold a0B at h
 unfold F57
 refine C1 I (cs := (f3 x0)) rfl fun b c a d => ?_
 refine d3 (lW Tryd.isAgg35 Tryd.sizeOf35 rfl a) ?_
 refine c5 (a9M _ _) ?_
 refine c5 (a8t (K4.mk x0)) ?_
 exact hR _ H _ _ a.drop ⟨(c7.B2 (K4.mk x0)), rfl, rfl, h⟩
def a1k (x0 : c7) (H : Hp) (K : ByteArray → Bool → Hp → Prop) : Prop :=
 (x0.a1q = true →
 K x0.V5.M8.d8 true H) ∧
 (x0.a1q = false →
 (x0.a1r = true →
 K x0.m3.d6.d8 ((decide (x0.m3.d6.d5 = 1)) || (decide (x0.m3.d6.d5 = 2))) H) ∧
 (x0.a1r = false →
 (x0.a1s = true →
 K x0.v7.l9.d8 ((decide (x0.v7.l9.d5 = 2)) || (decide (x0.v7.l9.d5 = 4))) H) ∧
 (x0.a1s = false →
 K ⟨#[]⟩ false H)))
theorem a6G (x0 : c7) {H : Hp} {K : ByteArray → Bool → Hp → Prop} (h : a1k x0 H K) : R3 x0 H K := by
 refine Ct.of fun w0 w ps0 H0 R E I hR => b7j ?_
 unfold a1k at h
 unfold F63
 refine c5 (a9h x0) ?_
 refine c5 (g9 _ _ (Value.bool x0.a1q) rfl) ?_
 refine c5 (g9 _ _ _ rfl) ?_
 refine s7 h (fun _ h => ?_) (fun _ h => ?_)
 ·refine q9 I Tryd.zeroValue138 (cs := [(Value.string ⟨#[]⟩), (vi 0)]) rfl fun n o e q => ?_
  refine s9 e Tryd.sizeOf138 (vs := [(Value.string x0.V5.M8.d8), (vi x0.V5.M8.X0)]) fun r d s => ?_
  refine c5 a4T ?_
  refine c5 Y8 ?_
  refine d3 (l1 Tryd.isAgg9 d rfl) ?_
  exact hR _ H _ _ d.drop ⟨x0.V5.M8.d8, true, rfl, rfl, h⟩
 ·refine c5 (a9i x0) ?_
  refine c5 (g9 _ _ (Value.bool x0.a1r) rfl) ?_
  refine c5 (g9 _ _ _ rfl) ?_
  refine s7 h (fun _ h => ?_) (fun _ h => ?_)
  ·refine q9 I Tryd.zeroValue140 (cs := [(vi 0), (Value.string ⟨#[]⟩), (Value.slice none 0 0), (Value.slice none 0 0), (Value.slice none 0 0), (Value.slice none 0 0)]) rfl fun f t i u => ?_
   refine s9 i Tryd.sizeOf140 (vs := [(vi x0.m3.d6.d5), (Value.string x0.m3.d6.d8), (vs x0.m3.d6.g5), (vs x0.m3.d6.o3), (vs x0.m3.d6.D8), (vs x0.m3.d6.D9)]) fun v j y => ?_
   refine N7 j fun z b => ?_
   refine f7 C3 ?_
   refine f7 Y9 ?_
   refine f7 C3 ?_
   refine f7 a1t ?_
   refine o8 (l1 Tryd.isAgg9 b rfl) ?_
   refine o8 (l1 Tryd.isAgg3 b rfl) ?_
   refine f7 (f8 _ _ _ _ _ _) ?_
   refine f7 (Pu.g fun hb => by have a := hb; with_reducible exact C3) ?_
   refine f7 (Pu.g fun hb => by have a := hb; simp only [r7 a]; with_reducible exact a1t) ?_
   refine b6g (p := (Value.pointer (some ⟨f, 0, none⟩))) rfl (Ld.g fun hb => by have a := hb; simp only [r7 a]; exact (l1 Tryd.isAgg3 b rfl)) ?_
   refine f7 (Pu.g fun hb => by have a := hb; simp only [r7 a]; with_reducible exact (f8 _ _ _ _ _ _)) ?_
   refine f7 (a1V _ _) ?_
   exact hR _ H _ _ b.drop ⟨x0.m3.d6.d8, ((decide (x0.m3.d6.d5 = 1)) || (decide (x0.m3.d6.d5 = 2))), rfl, rfl, h⟩
  ·refine c5 (a9j x0) ?_
   refine c5 (g9 _ _ (Value.bool x0.a1s) rfl) ?_
   refine c5 (g9 _ _ _ rfl) ?_
   refine s7 h (fun _ h => ?_) (fun _ h => ?_)
   ·refine q9 I Tryd.zeroValue146 (cs := [(vi 0), (vi 0), (Value.string ⟨#[]⟩), (Value.slice none 0 0)]) rfl fun k aa l ab => ?_
    refine s9 l Tryd.sizeOf146 (vs := [(vi x0.v7.l9.d5), (vi x0.v7.l9.y8), (Value.string x0.v7.l9.d8), (vs x0.v7.l9.u7)]) fun ac m ad => ?_
    refine N7 m fun ae c => ?_
    refine f7 N5 ?_
    refine f7 a1u ?_
    refine f7 N5 ?_
    refine f7 O0 ?_
    refine o8 (l1 Tryd.isAgg9 c rfl) ?_
    refine o8 (l1 Tryd.isAgg3 c rfl) ?_
    refine f7 (f8 _ _ _ _ _ _) ?_
    refine f7 (Pu.g fun hb => by have a := hb; with_reducible exact N5) ?_
    refine f7 (Pu.g fun hb => by have a := hb; simp only [r7 a]; with_reducible exact O0) ?_
    refine b6g (p := (Value.pointer (some ⟨k, 0, none⟩))) rfl (Ld.g fun hb => by have a := hb; simp only [r7 a]; exact (l1 Tryd.isAgg3 c rfl)) ?_
    refine f7 (Pu.g fun hb => by have a := hb; simp only [r7 a]; with_reducible exact (f8 _ _ _ _ _ _)) ?_
    refine f7 (a1V _ _) ?_
    exact hR _ H _ _ c.drop ⟨x0.v7.l9.d8, ((decide (x0.v7.l9.d5 = 2)) || (decide (x0.v7.l9.d5 = 4))), rfl, rfl, h⟩
   ·exact hR _ H _ _ I ⟨⟨#[]⟩, false, rfl, rfl, h⟩
def D5 (a8F : Int) (H : Hp) (K : Int → Hp → Prop) : Prop :=
 K a8F H
def K6 (b : ByteArray) (a6H : Int) (a : Nat) (H : Hp) (n2 : (Int × Nat) → Hp → Prop) (K : Int → Hp → Prop) : Prop :=
 (a < b.size →
 n2 ((IntKind.wrap .i64 (a6H + 1)), (a + (Utf8.decode b a).2)) H) ∧
 (¬ (a < b.size) →
 D5 a6H H K)
def M1 (x0 : ByteArray) (H : Hp) (K : Int → Hp → Prop) : Prop :=
 TL ((0, 0) : Int × Nat) H fun (s : Int × Nat) H n2 => K6 x0 s.1 s.2 H n2 K
theorem a2e (x0 : ByteArray) {H : Hp} {K : Int → Hp → Prop} (h : M1 x0 H K) : M0 x0 H K := by
 refine Ct.of fun w0 w ps0 H0 R E I hR => b7r ?_
 unfold M1 at h
 unfold F73
 have hj1 : ∀ (a8F : Int) (H : Hp) (w : World) (_ : Inv w0 ps0 H0 H [] w) (_ : D5 a8F H K), b0t (vi a8F) w R E := by
  intro a8F H w I h
  unfold b0t
  intro _
  unfold D5 at h
  exact hR _ H _ _ I ⟨a8F, rfl, rfl, h⟩
 refine r5 fun j1 hx1 => ?_
 refine b1p Tryd.underlying9 x0 I fun d i f j => ?_
 refine a1X (σ := Int × Nat) (fun (a6H, a) => [(vi a6H)]) (fun (a6H, a) => [itf d x0 a]) h rfl f ?_
 rintro ⟨a6H, a⟩ H k w next2 n2 b I h hn2
 dsimp only at b I h
 simp only [List.map_cons, List.map_nil, List.cons.injEq, and_true] at b
 have e2 := b
 simp only [e2]
 unfold b3r
 unfold K6 at h
 refine b2I I (fun c l g m => ?_) (fun c => ?_)
 ·replace h := h.1 c
  refine c5 (g9 _ _ (Value.bool true) rfl) ?_
  refine a0i (fun e => ?_) (fun e => by cases e)
  refine c5 (s8 _ _ _ _ _ _) ?_
  exact hn2 ((IntKind.wrap .i64 (a6H + 1)), (a + (Utf8.decode x0 a).2)) _ _ h g
 ·replace h := h.2 c
  refine c5 (g9 _ _ (Value.bool false) rfl) ?_
  refine a0i (fun e => by cases e) (fun e => ?_)
  exact hx1 _ _ (hj1 a6H H _ I.drop h)
def i7 (o0 : Bool) (H : Hp) (K : Bool → Hp → Prop) : Prop :=
 (o0 = true →
 K true H) ∧
 (o0 = false →
 K false H)
def a1M (x0 : ByteArray) (H : Hp) (K : Bool → Hp → Prop) : Prop :=
 (x0 = ⟨#[118, 97, 114]⟩ →
 i7 (decide (x0 = ⟨#[118, 97, 114]⟩)) H K) ∧
 (¬ (x0 = ⟨#[118, 97, 114]⟩) →
 (x0 = ⟨#[97, 114, 114, 97, 121]⟩ →
 i7 (decide (x0 = ⟨#[97, 114, 114, 97, 121]⟩)) H K) ∧
 (¬ (x0 = ⟨#[97, 114, 114, 97, 121]⟩) →
 (x0 = ⟨#[105, 102]⟩ →
 i7 (decide (x0 = ⟨#[105, 102]⟩)) H K) ∧
 (¬ (x0 = ⟨#[105, 102]⟩) →
 (x0 = ⟨#[101, 108, 115, 101]⟩ →
 i7 (decide (x0 = ⟨#[101, 108, 115, 101]⟩)) H K) ∧
 (¬ (x0 = ⟨#[101, 108, 115, 101]⟩) →
 (x0 = ⟨#[119, 104, 105, 108, 101]⟩ →
 i7 (decide (x0 = ⟨#[119, 104, 105, 108, 101]⟩)) H K) ∧
 (¬ (x0 = ⟨#[119, 104, 105, 108, 101]⟩) →
 (x0 = ⟨#[97, 115, 115, 101, 114, 116]⟩ →
 i7 (decide (x0 = ⟨#[97, 115, 115, 101, 114, 116]⟩)) H K) ∧
 (¬ (x0 = ⟨#[97, 115, 115, 101, 114, 116]⟩) →
 (x0 = ⟨#[97, 115, 115, 117, 109, 101]⟩ →
 i7 (decide (x0 = ⟨#[97, 115, 115, 117, 109, 101]⟩)) H K) ∧
 (¬ (x0 = ⟨#[97, 115, 115, 117, 109, 101]⟩) →
 (x0 = ⟨#[115, 107, 105, 112]⟩ →
 i7 (decide (x0 = ⟨#[115, 107, 105, 112]⟩)) H K) ∧
 (¬ (x0 = ⟨#[115, 107, 105, 112]⟩) →
 (x0 = ⟨#[105, 110, 112, 117, 116]⟩ →
 i7 (decide (x0 = ⟨#[105, 110, 112, 117, 116]⟩)) H K) ∧
 (¬ (x0 = ⟨#[105, 110, 112, 117, 116]⟩) →
 (x0 = ⟨#[116, 114, 117, 101]⟩ →
 i7 (decide (x0 = ⟨#[116, 114, 117, 101]⟩)) H K) ∧
 (¬ (x0 = ⟨#[116, 114, 117, 101]⟩) →
 i7 (decide (x0 = ⟨#[102, 97, 108, 115, 101]⟩)) H K))))))))))
theorem a7o (x0 : ByteArray) {H : Hp} {K : Bool → Hp → Prop} (h : a1M x0 H K) : a1I x0 H K := by
 refine Ct.of fun w0 w ps0 H0 R E I hR => b7n ?_
 unfold a1M at h
 unfold F68
 have hj1 : ∀ (o0 : Bool) (H : Hp) (w : World) (_ : Inv w0 ps0 H0 H [] w) (_ : i7 o0 H K), b0n (Value.bool o0) w R E := by
  intro o0 H w I h
  unfold b0n
  intro _
  unfold i7 at h
  refine s7 h (fun _ h => ?_) (fun _ h => ?_)
  ·exact hR _ H _ _ I ⟨true, rfl, rfl, h⟩
  ·exact hR _ H _ _ I ⟨false, rfl, rfl, h⟩
 refine r5 fun j1 hx1 => ?_
 refine c5 (U0 _ _ _ _ _) ?_
 refine d7 h (fun _ h => ?_) (fun _ h => ?_)
 ·exact hx1 _ _ (hj1 (decide (x0 = ⟨#[118, 97, 114]⟩)) H _ I h)
 ·refine c5 (U0 _ _ _ _ _) ?_
  refine d7 h (fun _ h => ?_) (fun _ h => ?_)
  ·exact hx1 _ _ (hj1 (decide (x0 = ⟨#[97, 114, 114, 97, 121]⟩)) H _ I h)
  ·refine c5 (U0 _ _ _ _ _) ?_
   refine d7 h (fun _ h => ?_) (fun _ h => ?_)
   ·exact hx1 _ _ (hj1 (decide (x0 = ⟨#[105, 102]⟩)) H _ I h)
   ·refine c5 (U0 _ _ _ _ _) ?_
    refine d7 h (fun _ h => ?_) (fun _ h => ?_)
    ·exact hx1 _ _ (hj1 (decide (x0 = ⟨#[101, 108, 115, 101]⟩)) H _ I h)
    ·refine c5 (U0 _ _ _ _ _) ?_
     refine d7 h (fun _ h => ?_) (fun _ h => ?_)
     ·exact hx1 _ _ (hj1 (decide (x0 = ⟨#[119, 104, 105, 108, 101]⟩)) H _ I h)
     ·refine c5 (U0 _ _ _ _ _) ?_
      refine d7 h (fun _ h => ?_) (fun _ h => ?_)
      ·exact hx1 _ _ (hj1 (decide (x0 = ⟨#[97, 115, 115, 101, 114, 116]⟩)) H _ I h)
      ·refine c5 (U0 _ _ _ _ _) ?_
       refine d7 h (fun _ h => ?_) (fun _ h => ?_)
       ·exact hx1 _ _ (hj1 (decide (x0 = ⟨#[97, 115, 115, 117, 109, 101]⟩)) H _ I h)
       ·refine c5 (U0 _ _ _ _ _) ?_
        refine d7 h (fun _ h => ?_) (fun _ h => ?_)
        ·exact hx1 _ _ (hj1 (decide (x0 = ⟨#[115, 107, 105, 112]⟩)) H _ I h)
        ·refine c5 (U0 _ _ _ _ _) ?_
         refine d7 h (fun _ h => ?_) (fun _ h => ?_)
         ·exact hx1 _ _ (hj1 (decide (x0 = ⟨#[105, 110, 112, 117, 116]⟩)) H _ I h)
         ·refine c5 (U0 _ _ _ _ _) ?_
          refine d7 h (fun _ h => ?_) (fun _ h => ?_)
          ·exact hx1 _ _ (hj1 (decide (x0 = ⟨#[116, 114, 117, 101]⟩)) H _ I h)
          ·refine c5 (U0 _ _ _ _ _) ?_
           exact hx1 _ _ (hj1 (decide (x0 = ⟨#[102, 97, 108, 115, 101]⟩)) H _ I h)
def t8 (a4d : Int) (E9 : Int) (E4 : Int) (a4e : Bool) (a4f : Bool) (a2U : (List ByteArray)) (H : Hp) (K : Bool → f5 → (List ByteArray) → Hp → Prop) : Prop :=
 K true (f5.mk a4d E9 E4 a4e a4f (Sl.mk none 0 0)) a2U H
def T4 (x0 : f5) (a : (List ByteArray)) (x1 : c7) (x2 : Int) (H : Hp) (K : Bool → f5 → (List ByteArray) → Hp → Prop) : Prop :=
 (4096 < (IntKind.wrap .i64 (x0.fnodes + 1)) →
 K false (f5.mk (IntKind.wrap .i64 (x0.fnodes + 1)) x0.fdepth 33 x0.fform x0.fnamed (Sl.mk none 0 0)) a H) ∧
 (¬ (4096 < (IntKind.wrap .i64 (x0.fnodes + 1))) →
 (64 < x2 →
 K false (f5.mk (IntKind.wrap .i64 (x0.fnodes + 1)) x0.fdepth 32 x0.fform x0.fnamed (Sl.mk none 0 0)) a H) ∧
 (¬ (64 < x2) →
 TG (x0.fform = false) (a0u x1 H) false H (fun (c : Bool) (j : Hp) =>
 R3 x1 j (fun b e d =>
 (e = true →
 TG (x0.fnamed = false) (Z8 b d) false d (fun (f : Bool) (k : Hp) =>
 G3 a b k (fun g i =>
 ((!g) = true →
 (a.length + ([b] : List ByteArray).length) * 17 ≤ 140737488355328 ∧
 t8 (IntKind.wrap .i64 (x0.fnodes + 1)) (if x2 > x0.fdepth then x2 else x0.fdepth) x0.fe (x0.fform || (!c)) (x0.fnamed || (!f)) (a ++ [b]) i K) ∧
 ((!g) = false →
 t8 (IntKind.wrap .i64 (x0.fnodes + 1)) (if x2 > x0.fdepth then x2 else x0.fdepth) x0.fe (x0.fform || (!c)) (x0.fnamed || (!f)) a i K)))) ∧
 (e = false →
 t8 (IntKind.wrap .i64 (x0.fnodes + 1)) (if x2 > x0.fdepth then x2 else x0.fdepth) x0.fe (x0.fform || (!c)) x0.fnamed a d K)))))
theorem a3I (x0 : f5) (b : (List ByteArray)) (x1 : c7) (x2 : Int) {H : Hp} {K : Bool → f5 → (List ByteArray) → Hp → Prop} (h : T4 x0 b x1 x2 H K) : S6 x0 b x1 x2 H K := by
 intro g0 k l m
 refine Ct.of fun w0 w ps0 H0 R E I hR => b7h ?_
 unfold T4 at h
 unfold F61
 refine c5 (m5 _) ?_
 refine c5 a4P ?_
 refine d3 (l1 Tryd.isAgg3 I rfl) ?_
 refine c5 (s8 _ _ _ _ _ _) ?_
 refine c5 (m5 _) ?_
 refine c5 a4P ?_
 refine N8 I Tryd.sizeOf3 fun ba p bb => ?_
 refine c5 (m5 _) ?_
 refine c5 a4P ?_
 refine d3 (l1 Tryd.isAgg3 p rfl) ?_
 refine c5 (a0K _ _ _ _ _ _) ?_
 refine d7 h (fun _ h => ?_) (fun _ h => ?_)
 ·refine c5 (m5 _) ?_
  refine c5 a1S ?_
  refine N8 p Tryd.sizeOf31 fun bc an bd => ?_
  exact hR _ H _ _ ((an.bring 1).bring 1) ⟨false, (f5.mk (IntKind.wrap .i64 (x0.fnodes + 1)) x0.fdepth 33 x0.fform x0.fnamed (Sl.mk none 0 0)), b, k, l, rfl, rfl, m, h⟩
 ·refine c5 (a0K _ _ _ _ _ _) ?_
  refine d7 h (fun _ h => ?_) (fun _ h => ?_)
  ·refine c5 (m5 _) ?_
   refine c5 a1S ?_
   refine N8 p Tryd.sizeOf31 fun be ao bf => ?_
   exact hR _ H _ _ ((ao.bring 1).bring 1) ⟨false, (f5.mk (IntKind.wrap .i64 (x0.fnodes + 1)) x0.fdepth 32 x0.fform x0.fnamed (Sl.mk none 0 0)), b, k, l, rfl, rfl, m, h⟩
  ·refine c5 (m5 _) ?_
   refine c5 a7t ?_
   refine d3 (l1 Tryd.isAgg3 p rfl) ?_
   refine c5 (b2D _ _ _ _ _) ?_
   refine c5 (m5 _) ?_
   refine c5 a7t ?_
   refine N8 p Tryd.sizeOf3 fun ae z bg => ?_
   refine c5 (m5 _) ?_
   refine c5 a4Q ?_
   refine d3 (l1 Tryd.isAgg4 z rfl) ?_
   simp only [Y3]
   refine a7Q (D := fun af t => ∃ (d : Bool) (n : Hp), af = (gv x0.fform false (Value.bool d)) ∧ (Inv w0 ps0 H0 n [bx g0 116 [(vi (IntKind.wrap .i64 (x0.fnodes + 1))), (vi (if x2 > x0.fdepth then x2 else x0.fdepth)), (vi x0.fe), (Value.bool x0.fform), (Value.bool x0.fnamed), (vs k)], l] t) ∧ (∀ i, i < ae.heap.size → ¬ inF [] i → t.heap[i]? = ae.heap[i]?) ∧ Hle H n ∧ (R3 x1 n (fun (j : ByteArray) (u : Bool) (q : Hp) =>
 (u = true →
 TG (x0.fnamed = false) (Z8 j q) false q (fun (f : Bool) (v : Hp) =>
 G3 b j v (fun (aa : Bool) (r : Hp) =>
 ((!aa) = true →
 (b.length + ([j] : List ByteArray).length) * 17 ≤ 140737488355328 ∧
 t8 (IntKind.wrap .i64 (x0.fnodes + 1)) (if x2 > x0.fdepth then x2 else x0.fdepth) x0.fe (x0.fform || (!d)) (x0.fnamed || (!f)) (b ++ [j]) r K) ∧
 ((!aa) = false →
 t8 (IntKind.wrap .i64 (x0.fnodes + 1)) (if x2 > x0.fdepth then x2 else x0.fdepth) x0.fe (x0.fform || (!d)) (x0.fnamed || (!f)) b r K)))) ∧
 (u = false →
 t8 (IntKind.wrap .i64 (x0.fnodes + 1)) (if x2 > x0.fdepth then x2 else x0.fdepth) x0.fe (x0.fform || (!d)) x0.fnamed b q K)))) (fun o => ?_) (fun o => ?_) ?_
   ·replace h := h.1 o
    have a := o
    simp only [r7 a]
    refine a5g z h (fun d n t ab ag ah h => ?_)
    exact ⟨d, n, by rfl, ab, ah, ag, h⟩
   ·exact ⟨false, H, by rw [a9v o], z, fun _ _ _ => rfl, Hle.refl _, h.2 o⟩
   ·clear h
    rintro af t ⟨d, n, rfl, ab, ah, ag, h⟩
    refine c5 (Pu.g fun hb => by have a := hb; simp only [r7 a]; with_reducible exact (W0 _)) ?_
    refine c5 (a1V _ _) ?_
    refine c5 (m5 _) ?_
    refine c5 a4Q ?_
    refine N8 ab Tryd.sizeOf4 fun bh ap bi => ?_
    have hj1 : ∀ (a4d : Int) (E9 : Int) (E4 : Int) (a4e : Bool) (a4f : Bool) (a2U : (List ByteArray)) (a5P : Sl) (a5Q : Frag) (H : Hp) (w : World) (_ : RowL 9 1 s6 a5P a2U a5Q) (_ : Inv w0 ps0 H0 H [bx g0 116 [(vi a4d), (vi E9), (vi E4), (Value.bool a4e), (Value.bool a4f), (vs a5P)], a5Q] w) (_ : t8 a4d E9 E4 a4e a4f a2U H K), b0k w R E := by
     intro a4d E9 E4 a4e a4f a2U a5P a5Q H w b4f I h
     unfold b0k
     intro _
     unfold t8 at h
     exact hR _ H _ _ ((I.bring 1).bring 1) ⟨true, (f5.mk a4d E9 E4 a4e a4f (Sl.mk none 0 0)), a2U, a5P, a5Q, rfl, rfl, b4f, h⟩
    refine r5 fun j1 hx1 => ?_
    refine d9 Tryd.call63 h ap ?_
    rintro _ q _ bj y _ _ ⟨j, u, rfl, rfl, h⟩
    refine c5 (g9 _ _ (Value.string j) rfl) ?_
    refine c5 (g9 _ _ (Value.bool u) rfl) ?_
    refine s7 h (fun _ h => ?_) (fun _ h => ?_)
    ·refine c5 (m5 _) ?_
     refine c5 a4R ?_
     refine d3 (l1 Tryd.isAgg4 y rfl) ?_
     simp only [Y3]
     refine a6x [] (fun f : Bool => (Value.bool f)) h y (fun ai h => ?_) fun f v aq ac aj ak h => ?_
     ·have a := ai
      simp only [r7 a]
      refine d9 Tryd.call64 h y ?_
      rintro _ v _ aq ac ak aj ⟨f, rfl, rfl, h⟩
      exact ⟨f, v, rfl, ac, aj, ak, h⟩
     refine c5 (Pu.g fun hb => by have a := hb; simp only [r7 a]; with_reducible exact (W0 _)) ?_
     refine c5 (a1V _ _) ?_
     refine c5 (m5 _) ?_
     refine c5 a4R ?_
     refine N8 ac Tryd.sizeOf4 fun bk al bl => ?_
     refine c5 (m5 _) ?_
     refine c5 a4S ?_
     refine d3 (l1 Tryd.isAgg26 al rfl) ?_
     refine d9 Tryd.call65 (h k l m) (al.bring 1) ?_
     rintro _ r _ bm ad _ _ ⟨aa, rfl, rfl, h⟩
     refine c5 (W0 _) ?_
     refine s7 h (fun _ h => ?_) (fun _ h => ?_)
     ·refine c5 (m5 _) ?_
      refine c5 a4S ?_
      refine d3 (l1 Tryd.isAgg26 (ad.bring 1) rfl) ?_
      refine a0p (e := 9) (c := s6) (xs := [j]) ad (b1q _) rfl rfl a3e a3f (nb rfl) fun bn bo bp ar am bq => ?_
      obtain ⟨au, h⟩ := h
      refine b2L (s := k) (xs := b) (am.bring 1) m (ar.srcO ((am.bring 1).bring 1)) au fun av aw br ax ay bs => ?_
      refine c5 (m5 _) ?_
      refine c5 a4S ?_
      refine N8 ((ay.bring 1).drop.bring 1) Tryd.sizeOf26 fun bt az bu => ?_
      exact hx1 _ _ (hj1 (IntKind.wrap .i64 (x0.fnodes + 1)) (if x2 > x0.fdepth then x2 else x0.fdepth) x0.fe (x0.fform || (!d)) (x0.fnamed || (!f)) (b ++ [j]) av aw r _ ax ((az.bring 1).bring 1) h)
     ·exact hx1 _ _ (hj1 (IntKind.wrap .i64 (x0.fnodes + 1)) (if x2 > x0.fdepth then x2 else x0.fdepth) x0.fe (x0.fform || (!d)) (x0.fnamed || (!f)) b k l r _ m (ad.bring 1) h)
    ·exact hx1 _ _ (hj1 (IntKind.wrap .i64 (x0.fnodes + 1)) (if x2 > x0.fdepth then x2 else x0.fdepth) x0.fe (x0.fform || (!d)) x0.fnamed b k l q _ m ((y.bring 1).bring 1) h)
def B5 (d : Int) (e : Int) (f : Int) (g : Bool) (i : Bool) (j : (List ByteArray)) (H : Hp) (K : f5 → Hp → Prop) : Prop :=
 ∀ (a : Sl) (b : Hp), Hle H b → SlH b 1 s6 a j → a.n ≤ a.c →
 K (f5.mk d e f g i a) b
def a0C (x0 : Sl) (H : Hp) (K : f5 → Hp → Prop) : Prop :=
 L4 x0 1 (f5.mk 0 0 0 false false (Sl.mk none 0 0)) [] H (fun d a b c =>
 ((!d) = true →
 B5 a.fnodes a.fdepth a.fe a.fform a.fnamed b c K) ∧
 ((!d) = false →
 (a.fform = true →
 B5 a.fnodes a.fdepth 30 a.fform a.fnamed b c K) ∧
 (a.fform = false →
 (a.fnamed = true →
 B5 a.fnodes a.fdepth 31 a.fform a.fnamed b c K) ∧
 (a.fnamed = false →
 B5 a.fnodes a.fdepth a.fe a.fform a.fnamed b c K))))
theorem a5R (x0 : Sl) {H : Hp} {K : f5 → Hp → Prop} (h : a0C x0 H K) : a0t x0 H K := by
 refine Ct.of fun w0 w ps0 H0 R E I hR => b7a ?_
 unfold a0C at h
 unfold F54
 refine c5 (b1N ) ?_
 refine C1 I (cs := [(vi 0), (vi 0), (vi 0), (Value.bool false), (Value.bool false), (Value.slice none 0 0)]) rfl fun d aj y ak => ?_
 refine q9 y Tryd.zeroValue117 (cs := [(Value.pointer none)]) rfl fun c al z am => ?_
 refine s9 z Tryd.sizeOf117 (vs := [(Value.pointer (some ⟨d, 0, none⟩))]) fun an aa ao => ?_
 refine q9 aa Tryd.zeroValue132 (cs := [Value.nilFunc]) rfl fun f ap ab aq => ?_
 refine c5 (a3d _ _ _) ?_
 refine s9 ab Tryd.sizeOf132 (vs := [(Value.func (.func 60) #[] #[(Value.pointer (some ⟨c, 0, none⟩)), (Value.pointer (some ⟨f, 0, none⟩))])]) fun ar u au => ?_
 have hj1 : ∀ (i : Int) (j : Int) (k : Int) (l : Bool) (m : Bool) (s : (List ByteArray)) (g : Sl) (t : Frag) (H : Hp) (w : World) (_ : RowL 9 1 s6 g s t) (_ : Inv w0 ps0 H0 H [bx c 117 [(Value.pointer (some ⟨d, 0, none⟩))], bx d 116 [(vi i), (vi j), (vi k), (Value.bool l), (Value.bool m), (vs g)], bx f 132 [(Value.func (.func 60) #[] #[(Value.pointer (some ⟨c, 0, none⟩)), (Value.pointer (some ⟨f, 0, none⟩))])], t] w) (_ : B5 i j k l m s H K), b0d (Value.pointer (some ⟨c, 0, none⟩)) w R E := by
  intro i j k l m s g t H w ac I h
  unfold b0d
  intro _
  unfold B5 at h
  refine d3 (l1 Tryd.isAgg117 I rfl) ?_
  obtain ⟨v, ad, ae, af, ag⟩ := Inv.freezeC (I.bring 3) ac (by decide)
  replace h := h g v ae af ag
  exact hR _ v _ _ (ad.drop.bring 1).drop ⟨(f5.mk i j k l m g), d, rfl, rfl, h⟩
 refine r5 fun j1 hx1 => ?_
 refine d3 (l1 Tryd.isAgg132 u rfl) ?_
 refine a2o (cap := [(Value.pointer (some ⟨c, 0, none⟩)), (Value.pointer (some ⟨f, 0, none⟩))]) Tryd.call60 (h c d f (Sl.mk none 0 0) ([]) (RowL.nil (e := 9) a3e a3f)) ((((u.nil.bring 1).bring 1).bring 3).bring 3) ?_
 rintro _ n _ av b _ _ ⟨aw, a, o, p, q, rfl, rfl, r, h⟩
 refine c5 (W0 _) ?_
 refine s7 h (fun _ h => ?_) (fun _ h => ?_)
 ·exact hx1 _ _ (hj1 a.fnodes a.fdepth a.fe a.fform a.fnamed o p q n _ r ((((b.bring 2).bring 3).bring 3).bring 3) h)
 ·refine d3 (l1 Tryd.isAgg117 b rfl) ?_
  refine c5 (m5 _) ?_
  refine c5 a4Q ?_
  refine d3 (l1 Tryd.isAgg4 (b.bring 1) rfl) ?_
  refine s7 h (fun _ h => ?_) (fun _ h => ?_)
  ·refine d3 (l1 Tryd.isAgg117 b rfl) ?_
   refine c5 (m5 _) ?_
   refine c5 a1S ?_
   refine N8 (b.bring 1) Tryd.sizeOf31 fun ax ah ay => ?_
   exact hx1 _ _ (hj1 a.fnodes a.fdepth 30 a.fform a.fnamed o p q n _ r ((((ah.bring 2).bring 3).bring 2).bring 3) h)
  ·refine d3 (l1 Tryd.isAgg117 b rfl) ?_
   refine c5 (m5 _) ?_
   refine c5 a4R ?_
   refine d3 (l1 Tryd.isAgg4 (b.bring 1) rfl) ?_
   refine s7 h (fun _ h => ?_) (fun _ h => ?_)
   ·refine d3 (l1 Tryd.isAgg117 b rfl) ?_
    refine c5 (m5 _) ?_
    refine c5 a1S ?_
    refine N8 (b.bring 1) Tryd.sizeOf31 fun az ai ba => ?_
    exact hx1 _ _ (hj1 a.fnodes a.fdepth 31 a.fform a.fnamed o p q n _ r ((((ai.bring 2).bring 3).bring 2).bring 3) h)
   ·exact hx1 _ _ (hj1 a.fnodes a.fdepth a.fe a.fform a.fnamed o p q n _ r ((((b.bring 2).bring 3).bring 3).bring 3) h)
def a1N (x0 : m1) (H : Hp) (K : f5 → Hp → Prop) : Prop :=
 y9 x0.a2r H (fun d e =>
 m8 x0.a1W e (fun f g =>
 ∀ (a : Sl) (b : Hp), Hle g b → SlH b 1 csl a [d, f] → a.n ≤ a.c →
 r6 a b (fun i j =>
 a0t i j (fun k l =>
 K k l))))
theorem a7p (x0 : m1) {H : Hp} {K : f5 → Hp → Prop} (h : a1N x0 H K) : a1J x0 H K := by
 refine Ct.of fun w0 w ps0 H0 R E I hR => b6V ?_
 unfold a1N at h
 unfold F49
 refine C1 I (cs := (m0 x0)) rfl fun z aa b ab => ?_
 refine N7 b fun ac a => ?_
 refine f7 a5F ?_
 refine f7 a2t ?_
 refine o8 (l1 Tryd.isAgg27 a rfl) ?_
 refine o8 (l1 Tryd.isAgg37 a rfl) ?_
 refine d9 Tryd.call56 h a ?_
 rintro _ _ _ ad d _ f ⟨g, rfl, rfl, h⟩
 refine ⟨(f _ a.lt1 (Inv.a2p (Fi := []) a)), ?_⟩
 refine d9 Tryd.call58 h d ?_
 rintro _ _ _ ae i _ _ ⟨j, rfl, rfl, h⟩
 refine a0p (e := 123) (c := csl) (xs := [g, j]) i (a9L _ _ _ _ _ _) rfl rfl a9l a9m (nb rfl) fun k af ag l m ah => ?_
 obtain ⟨n, o, p, q, r⟩ := Inv.freezeC m l (by decide)
 replace h := h k n p q r
 refine d9 Tryd.call55 h o ?_
 rintro _ _ _ ai s _ _ ⟨aj, rfl, rfl, h⟩
 refine d9 Tryd.call54 h s ?_
 rintro _ t _ ak u _ _ ⟨v, y, rfl, rfl, h⟩
 exact hR _ t _ _ (u.bring 1).drop ⟨v, y, rfl, rfl, h⟩
def a0V (x0 : m1) (H : Hp) (K : Int → Hp → Prop) : Prop :=
 a1J x0 H (fun a b =>
 K a.fe b)
theorem a6q (x0 : m1) {H : Hp} {K : Int → Hp → Prop} (h : a0V x0 H K) : a0R x0 H K := by
 refine Ct.of fun w0 w ps0 H0 R E I hR => b6N ?_
 unfold a0V at h
 unfold F41
 refine C1 I (cs := (m0 x0)) rfl fun e f a g => ?_
 refine d3 (lW Tryd.isAgg41 Tryd.sizeOf41 rfl a) ?_
 refine d9 Tryd.call49 h a ?_
 rintro _ c _ i b _ _ ⟨d, j, rfl, rfl, h⟩
 refine c5 (m5 _) ?_
 refine c5 a1S ?_
 refine d3 (l1 Tryd.isAgg31 b rfl) ?_
 exact hR _ c _ _ b.drop.drop ⟨d.fe, rfl, rfl, h⟩
def H7 (b9f : Sl) (a5J : Int) (b8x : Int) (a2V : (List d4)) (H : Hp) (n1 : (Int × (List d4)) → Hp → Prop) (K : f0 → (List d4) → Hp → Prop) : Prop :=
 n1 ((IntKind.wrap .i64 (b8x + 1)), a2V) H
def H9 (b4P : Sl) (b1X : Int) (b8y : Int) (a4o : (List d4)) (a : j9) (H : Hp) (n1 : (Int × (List d4)) → Hp → Prop) (K : f0 → (List d4) → Hp → Prop) : Prop :=
 G2 (f0.mk (Sl.mk none 0 0)) a4o a.D8 H (fun f b c =>
 G2 (f0.mk (Sl.mk none 0 0)) b a.D9 c (fun g d e =>
 H7 b4P b1X b8y d e n1 K))
def I0 (b8z : Sl) (b8A : Int) (b8B : Int) (b4V : Sl) (b4W : Int) (b : j9) (a0d : Int) (T5 : (List d4)) (H : Hp) (n1 : (Int × (List d4)) → Hp → Prop) (n6 : (Int × (List d4)) → Hp → Prop) (K : f0 → (List d4) → Hp → Prop) : Prop :=
 (a0d < b4W →
 (0 : Int) ≤ a0d ∧ (a0d : Int) < b4V.n ∧ ∃ a : i5, EltH H b4V a0d 4 (f6 a) ∧
 G7 (f0.mk (Sl.mk none 0 0)) T5 a H (fun e c d =>
 n6 ((IntKind.wrap .i64 (a0d + 1)), c) d)) ∧
 (¬ (a0d < b4W) →
 H9 b8z b8A b8B T5 b H n1 K)
def J0 (b8C : Sl) (b8D : Int) (b8E : Int) (a2W : (List d4)) (a : j9) (H : Hp) (n1 : (Int × (List d4)) → Hp → Prop) (K : f0 → (List d4) → Hp → Prop) : Prop :=
 TL ((0, a2W) : Int × (List d4)) H fun (s : Int × (List d4)) H n6 => I0 b8C b8D b8E a.g5 (a.g5.n : Int) a s.1 s.2 H n1 n6 K
def J1 (b8F : Sl) (b8G : Int) (b8H : Int) (b4X : Sl) (b4Y : Int) (b : j9) (a0e : Int) (T6 : (List d4)) (H : Hp) (n1 : (Int × (List d4)) → Hp → Prop) (n7 : (Int × (List d4)) → Hp → Prop) (K : f0 → (List d4) → Hp → Prop) : Prop :=
 (a0e < b4Y →
 (0 : Int) ≤ a0e ∧ (a0e : Int) < b4X.n ∧ ∃ a : m2, EltH H b4X a0e 4 (f9 a) ∧
 N0 (f0.mk (Sl.mk none 0 0)) T6 a H (fun e c d =>
 n7 ((IntKind.wrap .i64 (a0e + 1)), c) d)) ∧
 (¬ (a0e < b4Y) →
 J0 b8F b8G b8H T6 b H n1 K)
def v8 (b8I : Sl) (b8J : Int) (b8K : Int) (a2X : (List d4)) (a : j9) (H : Hp) (n1 : (Int × (List d4)) → Hp → Prop) (K : f0 → (List d4) → Hp → Prop) : Prop :=
 TL ((0, a2X) : Int × (List d4)) H fun (s : Int × (List d4)) H n7 => J1 b8I b8J b8K a.o3 (a.o3.n : Int) a s.1 s.2 H n1 n7 K
def J2 (a8e : Sl) (a8f : Int) (J3 : Int) (D4 : (List d4)) (H : Hp) (n1 : (Int × (List d4)) → Hp → Prop) (K : f0 → (List d4) → Hp → Prop) : Prop :=
 (J3 < a8f →
 (0 : Int) ≤ J3 ∧ (J3 : Int) < a8e.n ∧ ∃ a : j9, EltH H a8e J3 6 (j7 a) ∧
 (a.d5 = 1 →
 (D4.length + ([(d4.mk a.d8 1)] : List d4).length) * 25 ≤ 140737488355328 ∧
 v8 a8e a8f J3 (D4 ++ [(d4.mk a.d8 1)]) a H n1 K) ∧
 (¬ (a.d5 = 1) →
 (a.d5 = 2 →
 (D4.length + ([(d4.mk a.d8 2)] : List d4).length) * 25 ≤ 140737488355328 ∧
 v8 a8e a8f J3 (D4 ++ [(d4.mk a.d8 2)]) a H n1 K) ∧
 (¬ (a.d5 = 2) →
 v8 a8e a8f J3 D4 a H n1 K))) ∧
 (¬ (J3 < a8f) →
 K (f0.mk (Sl.mk none 0 0)) D4 H)
def T7 (x0 : f0) (a : (List d4)) (x1 : Sl) (H : Hp) (K : f0 → (List d4) → Hp → Prop) : Prop :=
 TL ((0, a) : Int × (List d4)) H fun (s : Int × (List d4)) H n1 => J2 x1 (x1.n : Int) s.1 s.2 H n1 K
theorem a3J (x0 : f0) (p : (List d4)) (x1 : Sl) {H : Hp} {K : f0 → (List d4) → Hp → Prop} (h : T7 x0 p x1 H K) : G2 x0 p x1 H K := by
 intro g0 al am an
 refine Ct.of fun w0 w ps0 H0 R E I hR => b6P ?_
 unfold T7 at h
 unfold F43
 refine c5 (R0 _ _ _) ?_
 obtain ⟨q, g, ao, ap⟩ := h
 refine G5 (J := fun n l w => ∃ (s : Int × (List d4)) (H : Hp) (a2f : Sl) (a4p : Frag) , n = g s ∧ l = (match s with | (J3, D4) => [(vi J3)]) ∧ (match s with | (J3, D4) => RowL 106 2 o4 a2f D4 a4p) ∧ (match s with | (J3, D4) => Inv w0 ps0 H0 H [bx g0 103 [(vs a2f)], a4p] w) ∧ q s H) ⟨_, (0, p), H, al, am, rfl, rfl, an, ((I.bring 1).bring 1), ao⟩ ?_
 rintro cx cy w next1 ⟨⟨J3, D4⟩, H, a2f, a4p, rfl, r, a4q, I, aq⟩ hn1
 dsimp only at r I a4q
 simp only [List.map_cons, List.map_nil, List.cons.injEq, and_true] at r
 have e12 := r
 simp only [e12]
 obtain ⟨n1, hm1, h⟩ : ∃ n1 : (Int × (List d4)) → Hp → Prop, (∀ s' H', n1 s' H' → q s' H' ∧ g s' < g (J3, D4)) ∧ J2 x1 (x1.n : Int) J3 D4 H n1 K := ⟨_, fun _ _ h => h, ap (J3, D4) H (fun s' H' => q s' H' ∧ g s' < g (J3, D4)) aq (fun _ _ a b => ⟨a, b⟩)⟩
 unfold b3d
 unfold J2 at h
 refine c5 (D1 _ _ _ _ _ _) ?_
 refine d7 h (fun _ h => ?_) (fun _ h => ?_)
 ·have hj2 : ∀ (a2V : (List d4)) (a5S : Sl) (a5T : Frag) (H : Hp) (w : World) (_ : RowL 106 2 o4 a5S a2V a5T) (_ : Inv w0 ps0 H0 H [bx g0 103 [(vs a5S)], a5T] w) (_ : H7 x1 (x1.n : Int) J3 a2V H n1 K), a9V (Value.pointer (some ⟨g0, 0, none⟩)) (vs x1) (vi (x1.n : Int)) (vi J3) w next1 R E := by
   intro a2V a5S a5T H w b4g I h
   unfold a9V
   intro _
   unfold H7 at h
   refine c5 (s8 _ _ _ _ _ _) ?_
   exact hn1 _ _ _ (hm1 _ _ h).2 ⟨((IntKind.wrap .i64 (J3 + 1)), a2V), H, a5S, a5T, rfl, rfl, b4g, ((I.bring 1).bring 1), (hm1 _ _ h).1⟩
  refine r5 fun j2 hx2 => ?_
  obtain ⟨ar, au, d, t, h⟩ := h
  obtain ⟨cz, da, av, t⟩ := t
  refine c5 (a2M av _ _ _ _ ar au) ?_
  refine d3 (ldA (vs := (j7 d)) Tryd.isAgg39 Tryd.sizeOf39 rfl (I.atH t)) ?_
  refine q9 I Tryd.zeroValue39 (cs := [(vi 0), (Value.string ⟨#[]⟩), (Value.slice none 0 0), (Value.slice none 0 0), (Value.slice none 0 0), (Value.slice none 0 0)]) rfl fun f db aw dc => ?_
  refine s9 aw Tryd.sizeOf39 (vs := (j7 d)) fun dd k de => ?_
  have hj3 : ∀ (a2X : (List d4)) (a5U : Sl) (a5V : Frag) (H : Hp) (w : World) (_ : RowL 106 2 o4 a5U a2X a5V) (_ : Inv w0 ps0 H0 H [bx g0 103 [(vs a5U)], bx f 39 (j7 d), a5V] w) (_ : v8 x1 (x1.n : Int) J3 a2X d H n1 K), a9Y (Value.pointer (some ⟨g0, 0, none⟩)) (Value.pointer (some ⟨f, 0, none⟩)) (vs x1) (vi (x1.n : Int)) (vi J3) w j2 R E := by
   intro a2X a5U a5V H w b4h I h
   unfold a9Y
   intro _
   unfold v8 at h
   have hj4 : ∀ (a2W : (List d4)) (a5W : Sl) (a5X : Frag) (H : Hp) (w : World) (_ : RowL 106 2 o4 a5W a2W a5X) (_ : Inv w0 ps0 H0 H [bx g0 103 [(vs a5W)], bx f 39 (j7 d), a5X] w) (_ : J0 x1 (x1.n : Int) J3 a2W d H n1 K), a9X (Value.pointer (some ⟨g0, 0, none⟩)) (Value.pointer (some ⟨f, 0, none⟩)) (vs x1) (vi (x1.n : Int)) (vi J3) w j2 R E := by
    intro a2W a5W a5X H w b4i I h
    unfold a9X
    intro _
    unfold J0 at h
    have hj5 : ∀ (a4o : (List d4)) (a5Y : Sl) (a5Z : Frag) (H : Hp) (w : World) (_ : RowL 106 2 o4 a5Y a4o a5Z) (_ : Inv w0 ps0 H0 H [bx g0 103 [(vs a5Y)], bx f 39 (j7 d), a5Z] w) (_ : H9 x1 (x1.n : Int) J3 a4o d H n1 K), a9W (Value.pointer (some ⟨g0, 0, none⟩)) (Value.pointer (some ⟨f, 0, none⟩)) (vs x1) (vi (x1.n : Int)) (vi J3) w j2 R E := by
     intro a4o a5Y a5Z H w b4j I h
     unfold a9W
     intro _
     unfold H9 at h
     refine c5 Y7 ?_
     refine d3 (l1 Tryd.isAgg37 (I.bring 1) rfl) ?_
     refine d9 Tryd.call43 (h g0 a5Y a5Z b4j) ((I.bring 2).bring 1) ?_
     rintro _ _ _ df ac _ _ ⟨dg, dh, ax, ay, rfl, rfl, az, h⟩
     refine c5 a0r ?_
     refine d3 (l1 Tryd.isAgg37 (ac.bring 2) rfl) ?_
     refine d9 Tryd.call43 (h g0 ax ay az) ((ac.bring 1).bring 1) ?_
     rintro _ ba _ di bb _ _ ⟨dj, bc, bd, be, rfl, rfl, bf, h⟩
     exact hx2 _ _ (hj2 bc bd be ba _ bf (((bb.bring 2).drop.bring 1).bring 1) h)
    refine r5 fun j5 hx5 => ?_
    refine c5 a2u ?_
    refine d3 (l1 Tryd.isAgg23 (I.bring 1) rfl) ?_
    refine c5 (a0o _ _ _) ?_
    obtain ⟨u, i, bg, bh⟩ := h
    refine G5 (J := fun n l w => ∃ (s : Int × (List d4)) (H : Hp) (a4r : Sl) (a4s : Frag) , n = i s ∧ l = (match s with | (a0d, T5) => [(vi a0d)]) ∧ (match s with | (a0d, T5) => RowL 106 2 o4 a4r T5 a4s) ∧ (match s with | (a0d, T5) => Inv w0 ps0 H0 H [bx g0 103 [(vs a4r)], bx f 39 (j7 d), a4s] w) ∧ u s H) ⟨_, (0, a2W), H, a5W, a5X, rfl, rfl, b4i, (((I.bring 2).bring 2).bring 2), bg⟩ ?_
    rintro dk dl w next6 ⟨⟨a0d, T5⟩, H, a4r, a4s, rfl, v, a7E, I, bi⟩ hn6
    dsimp only at v I a7E
    simp only [List.map_cons, List.map_nil, List.cons.injEq, and_true] at v
    have e60 := v
    simp only [e60]
    obtain ⟨n6, hm6, h⟩ : ∃ n6 : (Int × (List d4)) → Hp → Prop, (∀ s' H', n6 s' H' → u s' H' ∧ i s' < i (a0d, T5)) ∧ I0 x1 (x1.n : Int) J3 d.g5 (d.g5.n : Int) d a0d T5 H n1 n6 K := ⟨_, fun _ _ h => h, bh (a0d, T5) H (fun s' H' => u s' H' ∧ i s' < i (a0d, T5)) bi (fun _ _ a b => ⟨a, b⟩)⟩
    unfold b3b
    unfold I0 at h
    refine c5 (D1 _ _ _ _ _ _) ?_
    refine d7 h (fun _ h => ?_) (fun _ h => ?_)
    ·obtain ⟨bj, bk, ad, y, h⟩ := h
     obtain ⟨dm, dn, bl, y⟩ := y
     refine c5 (Z4 bl _ _ _ _ bj bk) ?_
     refine d3 (ldA (vs := (f6 ad)) Tryd.isAgg25 Tryd.sizeOf25 rfl (I.atH y)) ?_
     refine q9 I Tryd.zeroValue25 (cs := [(vi 0), (vi 0), (Value.string ⟨#[]⟩), (Value.slice none 0 0)]) rfl fun dp dq bm dr => ?_
     refine s9 bm Tryd.sizeOf25 (vs := (f6 ad)) fun ds ae dt => ?_
     refine d3 (lW Tryd.isAgg25 Tryd.sizeOf25 rfl ae) ?_
     refine d9 Tryd.call51 (h g0 a4r a4s a7E) ((ae.bring 3).bring 2) ?_
     rintro _ bn _ du bo _ _ ⟨dv, bp, bq, br, rfl, rfl, bs, h⟩
     refine c5 (s8 _ _ _ _ _ _) ?_
     exact hn6 _ _ _ (hm6 _ _ h).2 ⟨((IntKind.wrap .i64 (a0d + 1)), bp), bn, bq, br, rfl, rfl, bs, ((((bo.bring 2).drop.bring 1).bring 2).bring 2), (hm6 _ _ h).1⟩
    ·exact hx5 _ _ (hj5 T5 a4r a4s H _ a7E (((I.bring 2).bring 2).bring 2) h)
   refine r5 fun j4 hx4 => ?_
   refine c5 a0s ?_
   refine d3 (l1 Tryd.isAgg36 (I.bring 1) rfl) ?_
   refine c5 (a3j _ _ _) ?_
   obtain ⟨z, j, bt, bu⟩ := h
   refine G5 (J := fun n l w => ∃ (s : Int × (List d4)) (H : Hp) (a4t : Sl) (a4u : Frag) , n = j s ∧ l = (match s with | (a0e, T6) => [(vi a0e)]) ∧ (match s with | (a0e, T6) => RowL 106 2 o4 a4t T6 a4u) ∧ (match s with | (a0e, T6) => Inv w0 ps0 H0 H [bx g0 103 [(vs a4t)], bx f 39 (j7 d), a4u] w) ∧ z s H) ⟨_, (0, a2X), H, a5U, a5V, rfl, rfl, b4h, (((I.bring 2).bring 2).bring 2), bt⟩ ?_
   rintro dw dx w next7 ⟨⟨a0e, T6⟩, H, a4t, a4u, rfl, aa, a7F, I, bv⟩ hn7
   dsimp only at aa I a7F
   simp only [List.map_cons, List.map_nil, List.cons.injEq, and_true] at aa
   have e49 := aa
   simp only [e49]
   obtain ⟨n7, hm7, h⟩ : ∃ n7 : (Int × (List d4)) → Hp → Prop, (∀ s' H', n7 s' H' → z s' H' ∧ j s' < j (a0e, T6)) ∧ J1 x1 (x1.n : Int) J3 d.o3 (d.o3.n : Int) d a0e T6 H n1 n7 K := ⟨_, fun _ _ h => h, bu (a0e, T6) H (fun s' H' => z s' H' ∧ j s' < j (a0e, T6)) bv (fun _ _ a b => ⟨a, b⟩)⟩
   unfold b3c
   unfold J1 at h
   refine c5 (D1 _ _ _ _ _ _) ?_
   refine d7 h (fun _ h => ?_) (fun _ h => ?_)
   ·obtain ⟨bw, bz, af, ab, h⟩ := h
    obtain ⟨dy, dz, ca, ab⟩ := ab
    refine c5 (S5 ca _ _ _ _ bw bz) ?_
    refine d3 (ldA (vs := (f9 af)) Tryd.isAgg89 Tryd.sizeOf89 rfl (I.atH ab)) ?_
    refine q9 I Tryd.zeroValue89 (cs := [(vi 0), (vi 0), (Value.slice none 0 0), (Value.slice none 0 0)]) rfl fun ea eb cb ec => ?_
    refine s9 cb Tryd.sizeOf89 (vs := (f9 af)) fun ed ag ee => ?_
    refine d3 (lW Tryd.isAgg89 Tryd.sizeOf89 rfl ag) ?_
    refine d9 Tryd.call50 (h g0 a4t a4u a7F) ((ag.bring 3).bring 2) ?_
    rintro _ cc _ ef cd _ _ ⟨eg, ce, cf, cg, rfl, rfl, ch, h⟩
    refine c5 (s8 _ _ _ _ _ _) ?_
    exact hn7 _ _ _ (hm7 _ _ h).2 ⟨((IntKind.wrap .i64 (a0e + 1)), ce), cc, cf, cg, rfl, rfl, ch, ((((cd.bring 2).drop.bring 1).bring 2).bring 2), (hm7 _ _ h).1⟩
   ·exact hx4 _ _ (hj4 T6 a4t a4u H _ a7F (((I.bring 2).bring 2).bring 2) h)
  refine r5 fun j3 hx3 => ?_
  refine c5 a1t ?_
  refine d3 (l1 Tryd.isAgg3 k rfl) ?_
  refine c5 (f8 _ _ _ _ _ _) ?_
  refine d7 h (fun _ h => ?_) (fun _ h => ?_)
  ·refine N7 k fun eh m => ?_
   refine f7 (m5 _) ?_
   refine f7 Q6 ?_
   refine f7 Y9 ?_
   refine o8 (l1 Tryd.isAgg101 (m.bring 1) rfl) ?_
   refine o8 (l1 Tryd.isAgg9 m rfl) ?_
   refine f7 (a1v _ _) ?_
   refine a0p (e := 106) (c := o4) (xs := [(d4.mk d.d8 1)]) m (a5G _ _) rfl rfl a0L a0M (nb rfl) fun ei ej ek ci ah cj => ?_
   refine ⟨(cj _ (m.bring 1).lt1), ?_⟩
   obtain ⟨ck, h⟩ := h
   refine a6W (s := a2f) (xs := D4) (ah.bring 3) a4q (ci.srcO ((ah.bring 3).bring 1)) ck fun ai cl el cm cn em => ?_
   refine f7 (m5 _) ?_
   refine f7 Q6 ?_
   refine s9 ((cn.bring 1).drop.bring 2) Tryd.sizeOf101 (vs := [(vs ai)]) fun en co eo => ?_
   exact hx3 _ _ (hj3 (D4 ++ [(d4.mk d.d8 1)]) ai cl H _ cm (((co.bring 1).bring 2).bring 2) h)
  ·refine c5 (f8 _ _ _ _ _ _) ?_
   refine d7 h (fun _ h => ?_) (fun _ h => ?_)
   ·refine N7 k fun ep o => ?_
    refine f7 (m5 _) ?_
    refine f7 Q6 ?_
    refine f7 Y9 ?_
    refine o8 (l1 Tryd.isAgg101 (o.bring 1) rfl) ?_
    refine o8 (l1 Tryd.isAgg9 o rfl) ?_
    refine f7 (a1v _ _) ?_
    refine a0p (e := 106) (c := o4) (xs := [(d4.mk d.d8 2)]) o (a5G _ _) rfl rfl a0L a0M (nb rfl) fun eq er es cp aj cq => ?_
    refine ⟨(cq _ (o.bring 1).lt1), ?_⟩
    obtain ⟨cr, h⟩ := h
    refine a6W (s := a2f) (xs := D4) (aj.bring 3) a4q (cp.srcO ((aj.bring 3).bring 1)) cr fun ak ct et cu cv eu => ?_
    refine f7 (m5 _) ?_
    refine f7 Q6 ?_
    refine s9 ((cv.bring 1).drop.bring 2) Tryd.sizeOf101 (vs := [(vs ak)]) fun ev cw ew => ?_
    exact hx3 _ _ (hj3 (D4 ++ [(d4.mk d.d8 2)]) ak ct H _ cu (((cw.bring 1).bring 2).bring 2) h)
   ·exact hx3 _ _ (hj3 D4 a2f a4p H _ a4q (((k.bring 2).bring 1).bring 2) h)
 ·exact hR _ H _ _ ((I.bring 1).bring 1) ⟨(f0.mk (Sl.mk none 0 0)), D4, a2f, a4p, rfl, rfl, a4q, h⟩
def W5 (x0 : K4) (H : Hp) (K : Sl → Hp → Prop) : Prop :=
 K (Sl.mk none 0 0) H
theorem a4v (x0 : K4) {H : Hp} {K : Sl → Hp → Prop} (h : W5 x0 H K) : a1e x0 H K := by
 refine Ct.of fun w0 w ps0 H0 R E I hR => b7u ?_
 unfold W5 at h
 unfold F92
 refine C1 I (cs := (f3 x0.M8)) rfl fun b c a d => ?_
 exact hR _ H _ _ a.drop ⟨(Sl.mk none 0 0), rfl, rfl, h⟩
def a0D (x0 : i5) (H : Hp) (K : c7 → Hp → Prop) : Prop :=
 K (c7.v1 (B7.mk x0)) H
theorem a6a (x0 : i5) {H : Hp} {K : c7 → Hp → Prop} (h : a0D x0 H K) : a2B x0 H K := by
 refine Ct.of fun w0 w ps0 H0 R E I hR => b7A ?_
 unfold a0D at h
 unfold F98
 refine C1 I (cs := (f6 x0)) rfl fun b c a d => ?_
 refine d3 (lW Tryd.isAgg25 Tryd.sizeOf25 rfl a) ?_
 refine c5 (a9Q _ _ _ _ _ _) ?_
 refine c5 (a5e (B7.mk x0)) ?_
 exact hR _ H _ _ a.drop ⟨(c7.v1 (B7.mk x0)), rfl, rfl, h⟩
end Go.Proofs.YtaokfhdinhimfaaDoor
