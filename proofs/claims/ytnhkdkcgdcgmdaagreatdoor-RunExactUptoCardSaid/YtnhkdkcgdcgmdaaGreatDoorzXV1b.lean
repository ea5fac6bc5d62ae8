/- Typed formulas of the program's functions, and the theorems that the contracts follow from them; printed by lift.py off the code. -/
import Derived.Test.YtnhkdkcgdcgmdaaGreatDoorzXV1
namespace Go.Proofs.YtnhkdkcgdcgmdaaGreatDoor
open Go.RowKit
set_option maxRecDepth 100000
set_option maxHeartbeats 2000000
def a6S (x0 : f7) (H : Hp) (K : ByteArray → Bool → Hp → Prop) : Prop :=
 (x0.a7a = true →
 K x0.a1Y.a1y.d9 true H) ∧
 (x0.a7a = false →
 (x0.a7b = true →
 K x0.y8.m4.d9 ((decide (x0.y8.m4.b7 = 1)) || (decide (x0.y8.m4.b7 = 2))) H) ∧
 (x0.a7b = false →
 (x0.a6Z = true →
 K x0.E0.z6.d9 ((decide (x0.E0.z6.b7 = 2)) || (decide (x0.E0.z6.b7 = 4))) H) ∧
 (x0.a6Z = false →
 K ⟨#[]⟩ false H)))
theorem b4o (x0) {H K} (h : a6S x0 H K) : a3x x0 H K := by
 refine Ct.of fun w0 w ps0 H0 R E I hR => c8r ?_
 unfold a6S at h
 unfold d1s
 refine a8 (b8Z x0) (a8 (m8 _ _ (vB x0.a7a) rfl) (a8 (m8 _ _ _ rfl) ?_))
 refine m5 h (fun _ h => ?_) (fun _ h => ?_)
 ·refine B9 I Tryz.zeroValue182 (cs := [(eS), (vi 0)]) rfl fun n o e q => ?_
  refine o4 e Tryz.sizeOf182 (vs := [(Value.string x0.a1Y.a1y.d9), (vi x0.a1Y.a1y.A4)]) (cs' := [(Value.string x0.a1Y.a1y.d9), (vi x0.a1Y.a1y.A4)]) rfl rfl (nb rfl) rfl rfl fun r d s => ?_
  refine a8 b2t (a8 Q5 (b6 (l1 Tryz.isAgg9 d rfl) ?_))
  exact hR _ H _ _ d.drop ⟨x0.a1Y.a1y.d9, true, rfl, rfl, h⟩
 ·refine a8 (b9a x0) (a8 (m8 _ _ (vB x0.a7b) rfl) (a8 (m8 _ _ _ rfl) ?_))
  refine m5 h (fun _ h => ?_) (fun _ h => ?_)
  ·refine B9 I Tryz.zeroValue184 (cs := [(vi 0), (eS), (nS), (nS), (nS), (nS)]) rfl fun f t i u => ?_
   refine o4 i Tryz.sizeOf184 (vs := [(vi x0.y8.m4.b7), (Value.string x0.y8.m4.d9), (vs x0.y8.m4.m6), (vs x0.y8.m4.y6), (vs x0.y8.m4.K7), (vs x0.y8.m4.L0)]) (cs' := [(vi x0.y8.m4.b7), (Value.string x0.y8.m4.d9), (vs x0.y8.m4.m6), (vs x0.y8.m4.y6), (vs x0.y8.m4.K7), (vs x0.y8.m4.L0)]) rfl rfl (nb rfl) rfl rfl fun v j y => ?_
   refine U6 j fun z b => ?_
   refine j8 Q8 ?_
   refine j8 a1P ?_
   refine j8 Q8 ?_
   refine j8 V6 ?_
   refine u7 (l1 Tryz.isAgg9 b rfl) ?_
   refine u7 (l1 Tryz.isAgg3 b rfl) ?_
   refine j8 pEq ?_
   refine j8 (Pu.g fun a => by exact Q8) ?_
   refine j8 (Pu.g fun a => by simp only [g7 a]; exact V6) ?_
   refine d0K (p := (Value.pointer (some ⟨f, 0, none⟩))) rfl (Ld.g fun a => by simp only [g7 a]; exact (l1 Tryz.isAgg3 b rfl)) ?_
   refine j8 (Pu.g fun a => by simp only [g7 a]; exact pEq) ?_
   refine j8 (E8 _ _) ?_
   exact hR _ H _ _ b.drop ⟨x0.y8.m4.d9, ((decide (x0.y8.m4.b7 = 1)) || (decide (x0.y8.m4.b7 = 2))), rfl, rfl, h⟩
  ·refine a8 (b9b x0) (a8 (m8 _ _ (vB x0.a6Z) rfl) (a8 (m8 _ _ _ rfl) ?_))
   refine m5 h (fun _ h => ?_) (fun _ h => ?_)
   ·refine B9 I Tryz.zeroValue136 (cs := [(vi 0), (vi 0), (eS), (nS)]) rfl fun k aa l ab => ?_
    refine o4 l Tryz.sizeOf136 (vs := [(vi x0.E0.z6.b7), (vi x0.E0.z6.C9), (Value.string x0.E0.z6.d9), (vs x0.E0.z6.z8)]) (cs' := [(vi x0.E0.z6.b7), (vi x0.E0.z6.C9), (Value.string x0.E0.z6.d9), (vs x0.E0.z6.z8)]) rfl rfl (nb rfl) rfl rfl fun ac m ad => ?_
    refine U6 m fun ae c => ?_
    refine j8 a2o ?_
    refine j8 a3q ?_
    refine j8 a2o ?_
    refine j8 K8 ?_
    refine u7 (l1 Tryz.isAgg9 c rfl) ?_
    refine u7 (l1 Tryz.isAgg3 c rfl) ?_
    refine j8 pEq ?_
    refine j8 (Pu.g fun a => by exact a2o) ?_
    refine j8 (Pu.g fun a => by simp only [g7 a]; exact K8) ?_
    refine d0K (p := (Value.pointer (some ⟨k, 0, none⟩))) rfl (Ld.g fun a => by simp only [g7 a]; exact (l1 Tryz.isAgg3 c rfl)) ?_
    refine j8 (Pu.g fun a => by simp only [g7 a]; exact pEq) ?_
    refine j8 (E8 _ _) ?_
    exact hR _ H _ _ c.drop ⟨x0.E0.z6.d9, ((decide (x0.E0.z6.b7 = 2)) || (decide (x0.E0.z6.b7 = 4))), rfl, rfl, h⟩
   ·exact hR _ H _ _ I ⟨⟨#[]⟩, false, rfl, rfl, h⟩
def S8 (b2v : Int) (H : Hp) (K : Int → Hp → Prop) : Prop :=
 K b2v H
def S9 (b : ByteArray) (a8Q : Int) (a : Nat) (H : Hp) (n2 : (Int × Nat) → Hp → Prop) (K : Int → Hp → Prop) : Prop :=
 (a < b.size →
 n2 ((IntKind.wrap .i64 (a8Q + 1)), (a + (Utf8.decode b a).2)) H) ∧
 (¬ (a < b.size) →
 S8 a8Q H K)
def a1X (x0 : ByteArray) (H : Hp) (K : Int → Hp → Prop) : Prop :=
 TL ((0, 0) : Int × Nat) H fun (s : Int × Nat) H n2 => S9 x0 s.1 s.2 H n2 K
theorem a7Z (x0) {H K} (h : a1X x0 H K) : a1V x0 H K := by
 refine Ct.of fun w0 w ps0 H0 R E I hR => c8z ?_
 unfold a1X at h
 unfold d1A
 have hj1 : ∀ (b2v : Int) H w (_ : Inv w0 ps0 H0 H [] w) (_ : S8 b2v H K), b7t (vi b2v) w R E := by
  intro b2v H w I h
  unfold b7t
  intro _
  unfold S8 at h
  exact hR _ H _ _ I ⟨b2v, rfl, rfl, h⟩
 refine r5 fun j1 hx1 => ?_
 refine c2c Tryz.underlying9 x0 I fun j r k t => ?_
 obtain ⟨f, d, m, o⟩ := h
 refine y7 (J := fun n l w => ∃ (s : Int × Nat) (H : Hp) , n = d s ∧ l = (match s with | (a8Q, c) => [(vi a8Q)]) ∧ (match s with | (a8Q, c) => Inv w0 ps0 H0 H [itf j x0 c] w) ∧ f s H) ⟨_, (0, 0), H, rfl, rfl, k, m⟩ ?_
 rintro u v w next2 ⟨⟨a8Q, c⟩, H, rfl, g, I, p⟩ hn2
 dsimp only at g I
 simp only [List.map_cons, List.map_nil, List.cons.injEq, and_true] at g
 have e2 := g
 simp only [e2]
 obtain ⟨n2, hm2, h⟩ : ∃ n2 : (Int × Nat) → Hp → Prop, (∀ s' H', n2 s' H' → f s' H' ∧ d s' < d (a8Q, c)) ∧ S9 x0 a8Q c H n2 K := ⟨_, fun _ _ h => h, o (a8Q, c) H (fun s' H' => f s' H' ∧ d s' < d (a8Q, c)) p (fun _ _ a b => ⟨a, b⟩)⟩
 unfold c2q
 unfold S9 at h
 refine c4x I (fun i y q z => ?_) (fun i => ?_)
 ·replace h := h.1 i
  refine a8 (m8 _ _ (vB true) rfl) ?_
  refine V3 (fun e => ?_) (fun e => by cases e)
  refine a8 pAd ?_
  exact hn2 _ _ _ (hm2 _ _ h).2 ⟨((IntKind.wrap .i64 (a8Q + 1)), (c + (Utf8.decode x0 c).2)), H, rfl, rfl, q, (hm2 _ _ h).1⟩
 ·replace h := h.2 i
  refine a8 (m8 _ _ (vB false) rfl) ?_
  refine V3 (fun e => by cases e) (fun e => ?_)
  exact hx1 _ _ (hj1 a8Q H _ I.drop h)
def a7F (x0 : ByteArray) (H : Hp) (K : Bool → Hp → Prop) : Prop :=
 a1V x0 H (fun a b =>
 K (decide (32 < a)) b)
theorem b5m (x0) {H K} (h : a7F x0 H K) : a5E x0 H K := by
 refine Ct.of fun w0 w ps0 H0 R E I hR => c8u ?_
 unfold a7F at h
 unfold d1v
 refine i6 Tryz.call169 h I ?_
 rintro _ a _ d b _ _ ⟨c, rfl, rfl, h⟩
 refine a8 pGt ?_
 exact hR _ a _ _ b ⟨(decide (32 < c)), rfl, rfl, h⟩
def a6G (x0 : o3) (H : Hp) (K : Int → Hp → Prop) : Prop :=
 a7C x0 H (fun a b =>
 K a.fe b)
theorem b4a (x0) {H K} (h : a6G x0 H K) : a6F x0 H K := by
 refine Ct.of fun w0 w ps0 H0 R E I hR => d1c ?_
 unfold a6G at h
 unfold F24
 refine F0 I (cs := (q7 x0)) rfl fun e f a g => ?_
 refine b6 (lW Tryz.isAgg25 Tryz.sizeOf25 rfl a) ?_
 refine i6 Tryz.call43 h a ?_
 rintro _ c _ i b _ _ ⟨d, j, rfl, rfl, h⟩
 refine a8 (m3 _) (a8 a7P (b6 (l1 Tryz.isAgg27 b rfl) ?_))
 exact hR _ c _ _ b.drop.drop ⟨d.fe, rfl, rfl, h⟩
def W4 (d5l : Int) (a : m2) (a8a : Int) (a7f : d6) (H : Hp) (n1 : (Int × d6) → Hp → Prop) (K : d6 → Hp → Prop) : Prop :=
 (((decide (a8a < (a.z8.n : Int))) && (decide (a7f.fbad = 0))) = true →
 (0 : Int) ≤ a8a ∧ (a8a : Int) < a.z8.n ∧ ∃ b : m2, EltH H a.z8 a8a 4 (f4 b) ∧
 T7 a7f b (IntKind.wrap .i64 (d5l + 1)) H (fun c d =>
 n1 ((IntKind.wrap .i64 (a8a + 1)), c) d)) ∧
 (((decide (a8a < (a.z8.n : Int))) && (decide (a7f.fbad = 0))) = false →
 K a7f H)
def a2G (x0 : d6) (x1 : m2) (x2 : Int) (H : Hp) (K : d6 → Hp → Prop) : Prop :=
 P0 x0 x2 H (fun a b c =>
 ((!a) = true →
 K b c) ∧
 ((!a) = false →
 TL ((0, b) : Int × d6) c fun (s : Int × d6) H n1 => W4 x2 x1 s.1 s.2 H n1 K))
theorem a9a (x0 x1 x2) {H K} (h : a2G x0 x1 x2 H K) : T7 x0 x1 x2 H K := by
 intro g0
 refine Ct.of fun w0 w ps0 H0 R E I hR => c8q ?_
 unfold a2G at h
 unfold d1r
 refine F0 I (cs := (f4 x1)) rfl fun o ad p ae => ?_
 refine i6 Tryz.call84 (h g0) (p.bring 1) ?_
 rintro _ j _ af k _ _ ⟨ag, m, rfl, rfl, h⟩
 refine a8 (G3 _) ?_
 refine m5 h (fun _ h => ?_) (fun _ h => ?_)
 ·exact hR _ j _ _ (k.bring 1).drop ⟨m, rfl, rfl, h⟩
 ·obtain ⟨e, d, q, r⟩ := h
  refine y7 (J := fun n l w => ∃ (s : Int × d6) (H : Hp) , n = d s ∧ l = (match s with | (a8a, a7f) => [(vi a8a)]) ∧ (match s with | (a8a, a7f) => Inv w0 ps0 H0 H [bx g0 108 (p5 a7f), bx o 53 (f4 x1)] w) ∧ e s H) ⟨_, (0, m), j, rfl, rfl, ((k.bring 1).bring 1), q⟩ ?_
  rintro ah ai w next1 ⟨⟨a8a, a7f⟩, H, rfl, f, I, t⟩ hn1
  dsimp only at f I
  simp only [List.map_cons, List.map_nil, List.cons.injEq, and_true] at f
  have e6 := f
  simp only [e6]
  obtain ⟨n1, hm1, h⟩ : ∃ n1 : (Int × d6) → Hp → Prop, (∀ s' H', n1 s' H' → e s' H' ∧ d s' < d (a8a, a7f)) ∧ W4 x2 x1 a8a a7f H n1 K := ⟨_, fun _ _ h => h, r (a8a, a7f) H (fun s' H' => e s' H' ∧ d s' < d (a8a, a7f)) t (fun _ _ a b => ⟨a, b⟩)⟩
  unfold c2n
  unfold W4 at h
  refine a8 P5 (b6 (l1 Tryz.isAgg51 (I.bring 1) rfl) (a8 (P9 _ _ _) (a8 pLs ?_)))
  simp only [t8]
  refine a8 (Pu.g fun c => by simp only [g7 c]; exact (m3 _)) ?_
  refine a8 (Pu.g fun c => by simp only [g7 c]; exact U5) ?_
  refine b6 (Ld.g fun c => by simp only [g7 c]; exact (l1 Tryz.isAgg3 I rfl)) ?_
  refine a8 (Pu.g fun c => by simp only [g7 c]; exact pEq) ?_
  refine a8 (v7 _ _) ?_
  refine m5 h (fun _ h => ?_) (fun _ h => ?_)
  ·refine a8 P5 (b6 (l1 Tryz.isAgg51 (I.bring 1) rfl) ?_)
   obtain ⟨u, v, y, i, h⟩ := h
   obtain ⟨aj, ak, z, i⟩ := i
   refine a8 (K9 z _ _ _ _ u v) (b6 (ldA (vs := (f4 y)) Tryz.isAgg53 Tryz.sizeOf53 rfl (I.atH i)) (a8 pAd ?_))
   refine i6 Tryz.call121 (h g0) I ?_
   rintro _ aa _ al ab _ _ ⟨ac, rfl, rfl, h⟩
   refine a8 pAd ?_
   exact hn1 _ _ _ (hm1 _ _ h).2 ⟨((IntKind.wrap .i64 (a8a + 1)), ac), aa, rfl, rfl, ((ab.bring 1).bring 1), (hm1 _ _ h).1⟩
  ·exact hR _ H _ _ (I.bring 1).drop ⟨a7f, rfl, rfl, h⟩
def W5 (d5m : Int) (a : m7) (a6f : Int) (a0T : d6) (H : Hp) (n4 : (Int × d6) → Hp → Prop) (K : d6 → Hp → Prop) : Prop :=
 (((decide (a6f < (a.L0.n : Int))) && (decide (a0T.fbad = 0))) = true →
 (0 : Int) ≤ a6f ∧ (a6f : Int) < a.L0.n ∧ ∃ b : m7, EltH H a.L0 a6f 6 (f8 b) ∧
 T8 a0T b (IntKind.wrap .i64 (d5m + 1)) H (fun c d =>
 n4 ((IntKind.wrap .i64 (a6f + 1)), c) d)) ∧
 (((decide (a6f < (a.L0.n : Int))) && (decide (a0T.fbad = 0))) = false →
 K a0T H)
def W6 (d5n : Int) (a2i : d6) (a : m7) (H : Hp) (K : d6 → Hp → Prop) : Prop :=
 TL ((0, a2i) : Int × d6) H fun (s : Int × d6) H n4 => W5 d5n a s.1 s.2 H n4 K
def W7 (d1P : Int) (a : m7) (a8b : Int) (O5 : d6) (H : Hp) (n5 : (Int × d6) → Hp → Prop) (K : d6 → Hp → Prop) : Prop :=
 (((decide (a8b < (a.K7.n : Int))) && (decide (O5.fbad = 0))) = true →
 (0 : Int) ≤ a8b ∧ (a8b : Int) < a.K7.n ∧ ∃ b : m7, EltH H a.K7 a8b 6 (f8 b) ∧
 T8 O5 b (IntKind.wrap .i64 (d1P + 1)) H (fun c d =>
 n5 ((IntKind.wrap .i64 (a8b + 1)), c) d)) ∧
 (((decide (a8b < (a.K7.n : Int))) && (decide (O5.fbad = 0))) = false →
 W6 d1P O5 a H K)
def W8 (d5o : Int) (a5H : d6) (a : m7) (H : Hp) (K : d6 → Hp → Prop) : Prop :=
 TL ((0, a5H) : Int × d6) H fun (s : Int × d6) H n5 => W7 d5o a s.1 s.2 H n5 K
def W9 (d1Q : Int) (a : m7) (a8c : Int) (a0U : d6) (H : Hp) (n6 : (Int × d6) → Hp → Prop) (K : d6 → Hp → Prop) : Prop :=
 (((decide (a8c < (a.m6.n : Int))) && (decide (a0U.fbad = 0))) = true →
 (0 : Int) ≤ a8c ∧ (a8c : Int) < a.m6.n ∧ ∃ b : m2, EltH H a.m6 a8c 4 (f4 b) ∧
 T7 a0U b (IntKind.wrap .i64 (d1Q + 1)) H (fun c d =>
 n6 ((IntKind.wrap .i64 (a8c + 1)), c) d)) ∧
 (((decide (a8c < (a.m6.n : Int))) && (decide (a0U.fbad = 0))) = false →
 W8 d1Q a0U a H K)
def X0 (b2v : Int) (P7 : d6) (a : m7) (H : Hp) (K : d6 → Hp → Prop) : Prop :=
 TL ((0, P7) : Int × d6) H fun (s : Int × d6) H n6 => W9 b2v a s.1 s.2 H n6 K
def X1 (d1R : Int) (a : m7) (a8d : Int) (a0V : d6) (H : Hp) (n7 : (Int × d6) → Hp → Prop) (K : d6 → Hp → Prop) : Prop :=
 (((decide (a8d < (a.y6.n : Int))) && (decide (a0V.fbad = 0))) = true →
 (0 : Int) ≤ a8d ∧ (a8d : Int) < a.y6.n ∧ ∃ b : o0, EltH H a.y6 a8d 4 (h9 b) ∧
 a0w a0V b (IntKind.wrap .i64 (d1R + 1)) H (fun c d =>
 n7 ((IntKind.wrap .i64 (a8d + 1)), c) d)) ∧
 (((decide (a8d < (a.y6.n : Int))) && (decide (a0V.fbad = 0))) = false →
 X0 d1R a0V a H K)
def a2H (x0 : d6) (x1 : m7) (x2 : Int) (H : Hp) (K : d6 → Hp → Prop) : Prop :=
 P0 x0 x2 H (fun a b c =>
 ((!a) = true →
 K b c) ∧
 ((!a) = false →
 TL ((0, b) : Int × d6) c fun (s : Int × d6) H n7 => X1 x2 x1 s.1 s.2 H n7 K))
theorem a9b (x0 x1 x2) {H K} (h : a2H x0 x1 x2 H K) : T8 x0 x1 x2 H K := by
 intro g0
 refine Ct.of fun w0 w ps0 H0 R E I hR => d1m ?_
 unfold a2H at h
 unfold F85
 refine F0 I (cs := (f8 x1)) rfl fun d bv ae bw => ?_
 refine i6 Tryz.call84 (h g0) (ae.bring 1) ?_
 rintro _ ab _ bz ac _ _ ⟨ca, ad, rfl, rfl, h⟩
 refine a8 (G3 _) ?_
 refine m5 h (fun _ h => ?_) (fun _ h => ?_)
 ·exact hR _ ab _ _ (ac.bring 1).drop ⟨ad, rfl, rfl, h⟩
 ·have hj1 : ∀ (P7 : d6) H w (_ : Inv w0 ps0 H0 H [bx g0 108 (p5 P7), bx d 73 (f8 x1)] w) (_ : X0 x2 P7 x1 H K), c0b (Value.pointer (some ⟨g0, 0, none⟩)) (vi x2) (Value.pointer (some ⟨d, 0, none⟩)) w R E := by
   intro P7 H w I h
   unfold c0b
   intro _
   unfold X0 at h
   have hj2 : ∀ (a5H : d6) H w (_ : Inv w0 ps0 H0 H [bx g0 108 (p5 a5H), bx d 73 (f8 x1)] w) (_ : W8 x2 a5H x1 H K), c0a (Value.pointer (some ⟨g0, 0, none⟩)) (vi x2) (Value.pointer (some ⟨d, 0, none⟩)) w R E := by
    intro a5H H w I h
    unfold c0a
    intro _
    unfold W8 at h
    have hj3 : ∀ (a2i : d6) H w (_ : Inv w0 ps0 H0 H [bx g0 108 (p5 a2i), bx d 73 (f8 x1)] w) (_ : W6 x2 a2i x1 H K), b9Z (Value.pointer (some ⟨g0, 0, none⟩)) (vi x2) (Value.pointer (some ⟨d, 0, none⟩)) w R E := by
     intro a2i H w I h
     unfold b9Z
     intro _
     unfold W6 at h
     obtain ⟨k, e, af, ag⟩ := h
     refine y7 (J := fun n l w => ∃ (s : Int × d6) (H : Hp) , n = e s ∧ l = (match s with | (a6f, a0T) => [(vi a6f)]) ∧ (match s with | (a6f, a0T) => Inv w0 ps0 H0 H [bx g0 108 (p5 a0T), bx d 73 (f8 x1)] w) ∧ k s H) ⟨_, (0, a2i), H, rfl, rfl, ((I.bring 1).bring 1), af⟩ ?_
     rintro cb cc w next4 ⟨⟨a6f, a0T⟩, H, rfl, m, I, ah⟩ hn4
     dsimp only at m I
     simp only [List.map_cons, List.map_nil, List.cons.injEq, and_true] at m
     have e9 := m
     simp only [e9]
     obtain ⟨n4, hm4, h⟩ : ∃ n4 : (Int × d6) → Hp → Prop, (∀ s' H', n4 s' H' → k s' H' ∧ e s' < e (a6f, a0T)) ∧ W5 x2 x1 a6f a0T H n4 K := ⟨_, fun _ _ h => h, ag (a6f, a0T) H (fun s' H' => k s' H' ∧ e s' < e (a6f, a0T)) ah (fun _ _ a b => ⟨a, b⟩)⟩
     unfold c4I
     unfold W5 at h
     refine a8 a1Q (b6 (l1 Tryz.isAgg23 (I.bring 1) rfl) (a8 (a0h _ _ _) (a8 pLs ?_)))
     simp only [t8]
     refine a8 (Pu.g fun c => by simp only [g7 c]; exact (m3 _)) ?_
     refine a8 (Pu.g fun c => by simp only [g7 c]; exact U5) ?_
     refine b6 (Ld.g fun c => by simp only [g7 c]; exact (l1 Tryz.isAgg3 I rfl)) ?_
     refine a8 (Pu.g fun c => by simp only [g7 c]; exact pEq) ?_
     refine a8 (v7 _ _) ?_
     refine m5 h (fun _ h => ?_) (fun _ h => ?_)
     ·refine a8 a1Q (b6 (l1 Tryz.isAgg23 (I.bring 1) rfl) ?_)
      obtain ⟨ai, aj, ak, o, h⟩ := h
      obtain ⟨cd, ce, al, o⟩ := o
      refine a8 (a4s al _ _ _ _ ai aj) (b6 (ldA (vs := (f8 ak)) Tryz.isAgg73 Tryz.sizeOf73 rfl (I.atH o)) (a8 pAd ?_))
      refine i6 Tryz.call85 (h g0) I ?_
      rintro _ am _ cf an _ _ ⟨ao, rfl, rfl, h⟩
      refine a8 pAd ?_
      exact hn4 _ _ _ (hm4 _ _ h).2 ⟨((IntKind.wrap .i64 (a6f + 1)), ao), am, rfl, rfl, ((an.bring 1).bring 1), (hm4 _ _ h).1⟩
     ·exact hR _ H _ _ (I.bring 1).drop ⟨a0T, rfl, rfl, h⟩
    refine r5 fun j3 hx3 => ?_
    obtain ⟨p, f, ap, aq⟩ := h
    refine y7 (J := fun n l w => ∃ (s : Int × d6) (H : Hp) , n = f s ∧ l = (match s with | (a8b, O5) => [(vi a8b)]) ∧ (match s with | (a8b, O5) => Inv w0 ps0 H0 H [bx g0 108 (p5 O5), bx d 73 (f8 x1)] w) ∧ p s H) ⟨_, (0, a5H), H, rfl, rfl, ((I.bring 1).bring 1), ap⟩ ?_
    rintro cg ch w next5 ⟨⟨a8b, O5⟩, H, rfl, q, I, ar⟩ hn5
    dsimp only at q I
    simp only [List.map_cons, List.map_nil, List.cons.injEq, and_true] at q
    have e8 := q
    simp only [e8]
    obtain ⟨n5, hm5, h⟩ : ∃ n5 : (Int × d6) → Hp → Prop, (∀ s' H', n5 s' H' → p s' H' ∧ f s' < f (a8b, O5)) ∧ W7 x2 x1 a8b O5 H n5 K := ⟨_, fun _ _ h => h, aq (a8b, O5) H (fun s' H' => p s' H' ∧ f s' < f (a8b, O5)) ar (fun _ _ a b => ⟨a, b⟩)⟩
    unfold c4J
    unfold W7 at h
    refine a8 a0O (b6 (l1 Tryz.isAgg23 (I.bring 1) rfl) (a8 (a0h _ _ _) (a8 pLs ?_)))
    simp only [t8]
    refine a8 (Pu.g fun c => by simp only [g7 c]; exact (m3 _)) ?_
    refine a8 (Pu.g fun c => by simp only [g7 c]; exact U5) ?_
    refine b6 (Ld.g fun c => by simp only [g7 c]; exact (l1 Tryz.isAgg3 I rfl)) ?_
    refine a8 (Pu.g fun c => by simp only [g7 c]; exact pEq) ?_
    refine a8 (v7 _ _) ?_
    refine m5 h (fun _ h => ?_) (fun _ h => ?_)
    ·refine a8 a0O (b6 (l1 Tryz.isAgg23 (I.bring 1) rfl) ?_)
     obtain ⟨au, av, aw, r, h⟩ := h
     obtain ⟨ci, cj, ax, r⟩ := r
     refine a8 (a4s ax _ _ _ _ au av) (b6 (ldA (vs := (f8 aw)) Tryz.isAgg73 Tryz.sizeOf73 rfl (I.atH r)) (a8 pAd ?_))
     refine i6 Tryz.call85 (h g0) I ?_
     rintro _ ay _ ck az _ _ ⟨ba, rfl, rfl, h⟩
     refine a8 pAd ?_
     exact hn5 _ _ _ (hm5 _ _ h).2 ⟨((IntKind.wrap .i64 (a8b + 1)), ba), ay, rfl, rfl, ((az.bring 1).bring 1), (hm5 _ _ h).1⟩
    ·exact hx3 _ _ (hj3 O5 H _ ((I.bring 1).bring 1) h)
   refine r5 fun j2 hx2 => ?_
   obtain ⟨t, i, bb, bc⟩ := h
   refine y7 (J := fun n l w => ∃ (s : Int × d6) (H : Hp) , n = i s ∧ l = (match s with | (a8c, a0U) => [(vi a8c)]) ∧ (match s with | (a8c, a0U) => Inv w0 ps0 H0 H [bx g0 108 (p5 a0U), bx d 73 (f8 x1)] w) ∧ t s H) ⟨_, (0, P7), H, rfl, rfl, ((I.bring 1).bring 1), bb⟩ ?_
   rintro cl cm w next6 ⟨⟨a8c, a0U⟩, H, rfl, u, I, bd⟩ hn6
   dsimp only at u I
   simp only [List.map_cons, List.map_nil, List.cons.injEq, and_true] at u
   have e7 := u
   simp only [e7]
   obtain ⟨n6, hm6, h⟩ : ∃ n6 : (Int × d6) → Hp → Prop, (∀ s' H', n6 s' H' → t s' H' ∧ i s' < i (a8c, a0U)) ∧ W9 x2 x1 a8c a0U H n6 K := ⟨_, fun _ _ h => h, bc (a8c, a0U) H (fun s' H' => t s' H' ∧ i s' < i (a8c, a0U)) bd (fun _ _ a b => ⟨a, b⟩)⟩
   unfold c4K
   unfold W9 at h
   refine a8 V8 (b6 (l1 Tryz.isAgg51 (I.bring 1) rfl) (a8 (P9 _ _ _) (a8 pLs ?_)))
   simp only [t8]
   refine a8 (Pu.g fun c => by simp only [g7 c]; exact (m3 _)) ?_
   refine a8 (Pu.g fun c => by simp only [g7 c]; exact U5) ?_
   refine b6 (Ld.g fun c => by simp only [g7 c]; exact (l1 Tryz.isAgg3 I rfl)) ?_
   refine a8 (Pu.g fun c => by simp only [g7 c]; exact pEq) ?_
   refine a8 (v7 _ _) ?_
   refine m5 h (fun _ h => ?_) (fun _ h => ?_)
   ·refine a8 V8 (b6 (l1 Tryz.isAgg51 (I.bring 1) rfl) ?_)
    obtain ⟨be, bf, bg, v, h⟩ := h
    obtain ⟨cn, co, bh, v⟩ := v
    refine a8 (K9 bh _ _ _ _ be bf) (b6 (ldA (vs := (f4 bg)) Tryz.isAgg53 Tryz.sizeOf53 rfl (I.atH v)) (a8 pAd ?_))
    refine i6 Tryz.call121 (h g0) I ?_
    rintro _ bi _ cp bj _ _ ⟨bk, rfl, rfl, h⟩
    refine a8 pAd ?_
    exact hn6 _ _ _ (hm6 _ _ h).2 ⟨((IntKind.wrap .i64 (a8c + 1)), bk), bi, rfl, rfl, ((bj.bring 1).bring 1), (hm6 _ _ h).1⟩
   ·exact hx2 _ _ (hj2 a0U H _ ((I.bring 1).bring 1) h)
  refine r5 fun j1 hx1 => ?_
  obtain ⟨y, j, bl, bm⟩ := h
  refine y7 (J := fun n l w => ∃ (s : Int × d6) (H : Hp) , n = j s ∧ l = (match s with | (a8d, a0V) => [(vi a8d)]) ∧ (match s with | (a8d, a0V) => Inv w0 ps0 H0 H [bx g0 108 (p5 a0V), bx d 73 (f8 x1)] w) ∧ y s H) ⟨_, (0, ad), ab, rfl, rfl, ((ac.bring 1).bring 1), bl⟩ ?_
  rintro cq cr w next7 ⟨⟨a8d, a0V⟩, H, rfl, z, I, bn⟩ hn7
  dsimp only at z I
  simp only [List.map_cons, List.map_nil, List.cons.injEq, and_true] at z
  have e6 := z
  simp only [e6]
  obtain ⟨n7, hm7, h⟩ : ∃ n7 : (Int × d6) → Hp → Prop, (∀ s' H', n7 s' H' → y s' H' ∧ j s' < j (a8d, a0V)) ∧ X1 x2 x1 a8d a0V H n7 K := ⟨_, fun _ _ h => h, bm (a8d, a0V) H (fun s' H' => y s' H' ∧ j s' < j (a8d, a0V)) bn (fun _ _ a b => ⟨a, b⟩)⟩
  unfold c4L
  unfold X1 at h
  refine a8 V7 (b6 (l1 Tryz.isAgg57 (I.bring 1) rfl) (a8 (a1Z _ _ _) (a8 pLs ?_)))
  simp only [t8]
  refine a8 (Pu.g fun c => by simp only [g7 c]; exact (m3 _)) ?_
  refine a8 (Pu.g fun c => by simp only [g7 c]; exact U5) ?_
  refine b6 (Ld.g fun c => by simp only [g7 c]; exact (l1 Tryz.isAgg3 I rfl)) ?_
  refine a8 (Pu.g fun c => by simp only [g7 c]; exact pEq) ?_
  refine a8 (v7 _ _) ?_
  refine m5 h (fun _ h => ?_) (fun _ h => ?_)
  ·refine a8 V7 (b6 (l1 Tryz.isAgg57 (I.bring 1) rfl) ?_)
   obtain ⟨bo, bp, bq, aa, h⟩ := h
   obtain ⟨ct, cu, br, aa⟩ := aa
   refine a8 (P6 br _ _ _ _ bo bp) (b6 (ldA (vs := (h9 bq)) Tryz.isAgg59 Tryz.sizeOf59 rfl (I.atH aa)) (a8 pAd ?_))
   refine i6 Tryz.call120 (h g0) I ?_
   rintro _ bs _ cv bt _ _ ⟨bu, rfl, rfl, h⟩
   refine a8 pAd ?_
   exact hn7 _ _ _ (hm7 _ _ h).2 ⟨((IntKind.wrap .i64 (a8d + 1)), bu), bs, rfl, rfl, ((bt.bring 1).bring 1), (hm7 _ _ h).1⟩
  ·exact hx1 _ _ (hj1 a0V H _ ((I.bring 1).bring 1) h)
def a0x (a : d6) (b : d6) (c : o3) (H : Hp) (K : d6 → Hp → Prop) : Prop :=
 K a H
def a0y (a : o3) (a1M : Int) (b : d6) (c : d6) (H : Hp) (n3 : (Int × d6 × d6) → Hp → Prop) (K : d6 → Hp → Prop) : Prop :=
 (((decide (a1M < (a.a2f.n : Int))) && (decide (b.fbad = 0))) = true →
 (0 : Int) ≤ a1M ∧ (a1M : Int) < a.a2f.n ∧ ∃ d : m7, EltH H a.a2f a1M 6 (f8 d) ∧
 T8 b d 1 H (fun e f =>
 n3 ((IntKind.wrap .i64 (a1M + 1)), e, c) f)) ∧
 (((decide (a1M < (a.a2f.n : Int))) && (decide (b.fbad = 0))) = false →
 a0x b c a H K)
def a0z (a : d6) (b : d6) (c : o3) (H : Hp) (K : d6 → Hp → Prop) : Prop :=
 TL ((0, a, b) : Int × d6 × d6) H fun (s : Int × d6 × d6) H n3 => a0y c s.1 s.2.1 s.2.2 H n3 K
def a0A (b : o3) (a9Y : Int) (a : d6) (c : d6) (H : Hp) (n4 : (Int × d6 × d6) → Hp → Prop) (K : d6 → Hp → Prop) : Prop :=
 (((decide (a9Y < (b.D9.n : Int))) && (decide (a.fbad = 0))) = true →
 P0 a 1 H (fun f d e =>
 n4 ((IntKind.wrap .i64 (a9Y + 1)), d, c) e)) ∧
 (((decide (a9Y < (b.D9.n : Int))) && (decide (a.fbad = 0))) = false →
 a0z a c b H K)
def a3J (x0 : o3) (H : Hp) (K : d6 → Hp → Prop) : Prop :=
 TL ((0, (d6.mk 0 0 0), (d6.mk 0 0 0)) : Int × d6 × d6) H fun (s : Int × d6 × d6) H n4 => a0A x0 s.1 s.2.1 s.2.2 H n4 K
theorem a9Z (x0) {H K} (h : a3J x0 H K) : a3G x0 H K := by
 refine Ct.of fun w0 w ps0 H0 R E I hR => d1e ?_
 unfold a3J at h
 unfold F47
 refine F0 I (cs := (q7 x0)) rfl fun p ba ae bb => ?_
 refine B9 ae Tryz.zeroValue108 (cs := [(vi 0), (vi 0), (vi 0)]) rfl fun m bc af bd => ?_
 refine a8 (c3p ) ?_
 refine B9 af Tryz.zeroValue108 (cs := [(vi 0), (vi 0), (vi 0)]) rfl fun f be ag bf => ?_
 refine o4 ag Tryz.sizeOf108 (vs := [(vi 0), (vi 0), (vi 0)]) (cs' := [(vi 0), (vi 0), (vi 0)]) rfl rfl (nb rfl) rfl rfl fun bg ah bh => ?_
 have hj1 : ∀ (t : d6) (u : d6) H w (_ : Inv w0 ps0 H0 H [bx f 108 (p5 t), bx m 108 (p5 u), bx p 25 (q7 x0)] w) (_ : a0z t u x0 H K), b9S (Value.pointer (some ⟨p, 0, none⟩)) (Value.pointer (some ⟨m, 0, none⟩)) (Value.pointer (some ⟨f, 0, none⟩)) w R E := by
  intro t u H w I h
  unfold b9S
  intro _
  unfold a0z at h
  have hj2 : ∀ (k : d6) (v : d6) H w (_ : Inv w0 ps0 H0 H [bx f 108 (p5 k), bx m 108 (p5 v), bx p 25 (q7 x0)] w) (_ : a0x k v x0 H K), b9R (Value.pointer (some ⟨m, 0, none⟩)) (Value.pointer (some ⟨f, 0, none⟩)) w R E := by
   intro k v H w I h
   unfold b9R
   intro _
   unfold a0x at h
   refine b6 (lW Tryz.isAgg108 Tryz.sizeOf108 rfl I) ?_
   refine o4 (I.bring 1) Tryz.sizeOf108 (vs := (p5 k)) (cs' := (p5 k)) rfl rfl (nb rfl) rfl rfl fun bi ad bj => ?_
   refine a6X Tryz.isAgg108 Tryz.sizeOf108 rfl (ad.at1 (o := 0) (vs := (p5 k)) (nb rfl) rfl) ?_
   exact hR _ H _ _ ad.drop.drop.drop ⟨k, rfl, rfl, h⟩
  refine r5 fun j2 hx2 => ?_
  obtain ⟨y, q, ai, aj⟩ := h
  refine y7 (J := fun n l w => ∃ (s : Int × d6 × d6) (H : Hp) , n = q s ∧ l = (match s with | (a1M, i, d) => [(vi a1M)]) ∧ (match s with | (a1M, i, d) => Inv w0 ps0 H0 H [bx f 108 (p5 i), bx m 108 (p5 d), bx p 25 (q7 x0)] w) ∧ y s H) ⟨_, (0, t, u), H, rfl, rfl, (((I.bring 2).bring 2).bring 2), ai⟩ ?_
  rintro bk bl w next3 ⟨⟨a1M, i, d⟩, H, rfl, z, I, ak⟩ hn3
  dsimp only at z I
  simp only [List.map_cons, List.map_nil, List.cons.injEq, and_true] at z
  have e5 := z
  simp only [e5]
  obtain ⟨n3, hm3, h⟩ : ∃ n3 : (Int × d6 × d6) → Hp → Prop, (∀ s' H', n3 s' H' → y s' H' ∧ q s' < q (a1M, i, d)) ∧ a0y x0 a1M i d H n3 K := ⟨_, fun _ _ h => h, aj (a1M, i, d) H (fun s' H' => y s' H' ∧ q s' < q (a1M, i, d)) ak (fun _ _ a b => ⟨a, b⟩)⟩
  unfold c4C
  unfold a0y at h
  refine a8 a3X (b6 (l1 Tryz.isAgg23 (I.bring 2) rfl) (a8 (a0h _ _ _) (a8 pLs ?_)))
  refine a8 (Pu.g fun c => by exact U5) ?_
  refine b6 (Ld.g fun c => by simp only [g7 c]; exact (l1 Tryz.isAgg3 I rfl)) ?_
  refine a8 (Pu.g fun c => by simp only [g7 c]; exact pEq) ?_
  refine a8 (v7 _ _) ?_
  refine m5 h (fun _ h => ?_) (fun _ h => ?_)
  ·refine a8 a3X (b6 (l1 Tryz.isAgg23 (I.bring 2) rfl) ?_)
   obtain ⟨al, am, an, aa, h⟩ := h
   obtain ⟨bm, bn, ao, aa⟩ := aa
   refine a8 (a4s ao _ _ _ _ al am) (b6 (ldA (vs := (f8 an)) Tryz.isAgg73 Tryz.sizeOf73 rfl (I.atH aa)) ?_)
   refine i6 Tryz.call85 (h f) I ?_
   rintro _ ap _ bo aq _ _ ⟨ar, rfl, rfl, h⟩
   refine a8 pAd ?_
   exact hn3 _ _ _ (hm3 _ _ h).2 ⟨((IntKind.wrap .i64 (a1M + 1)), ar, d), ap, rfl, rfl, (((aq.bring 2).bring 2).bring 2), (hm3 _ _ h).1⟩
  ·exact hx2 _ _ (hj2 i d H _ (((I.bring 2).bring 2).bring 2) h)
 refine r5 fun j1 hx1 => ?_
 obtain ⟨ab, r, au, av⟩ := h
 refine y7 (J := fun n l w => ∃ (s : Int × d6 × d6) (H : Hp) , n = r s ∧ l = (match s with | (a9Y, j, e) => [(vi a9Y)]) ∧ (match s with | (a9Y, j, e) => Inv w0 ps0 H0 H [bx f 108 (p5 j), bx m 108 (p5 e), bx p 25 (q7 x0)] w) ∧ ab s H) ⟨_, (0, (d6.mk 0 0 0), (d6.mk 0 0 0)), H, rfl, rfl, (((ah.bring 2).bring 2).bring 2), au⟩ ?_
 rintro bp bq w next4 ⟨⟨a9Y, j, e⟩, H, rfl, ac, I, aw⟩ hn4
 dsimp only at ac I
 simp only [List.map_cons, List.map_nil, List.cons.injEq, and_true] at ac
 have e4 := ac
 simp only [e4]
 obtain ⟨n4, hm4, h⟩ : ∃ n4 : (Int × d6 × d6) → Hp → Prop, (∀ s' H', n4 s' H' → ab s' H' ∧ r s' < r (a9Y, j, e)) ∧ a0A x0 a9Y j e H n4 K := ⟨_, fun _ _ h => h, av (a9Y, j, e) H (fun s' H' => ab s' H' ∧ r s' < r (a9Y, j, e)) aw (fun _ _ a b => ⟨a, b⟩)⟩
 unfold c4D
 unfold a0A at h
 refine a8 O1 (b6 (l1 Tryz.isAgg22 (I.bring 2) rfl) (a8 (a3w _ _ _) (a8 pLs ?_)))
 refine a8 (Pu.g fun c => by exact U5) ?_
 refine b6 (Ld.g fun c => by simp only [g7 c]; exact (l1 Tryz.isAgg3 I rfl)) ?_
 refine a8 (Pu.g fun c => by simp only [g7 c]; exact pEq) ?_
 refine a8 (v7 _ _) ?_
 refine m5 h (fun _ h => ?_) (fun _ h => ?_)
 ·refine i6 Tryz.call84 (h f) I ?_
  rintro _ ax _ br ay _ _ ⟨bs, az, rfl, rfl, h⟩
  refine a8 pAd ?_
  exact hn4 _ _ _ (hm4 _ _ h).2 ⟨((IntKind.wrap .i64 (a9Y + 1)), az, e), ax, rfl, rfl, (((ay.bring 2).bring 2).bring 2), (hm4 _ _ h).1⟩
 ·exact hx1 _ _ (hj1 j e H _ (((I.bring 2).bring 2).bring 2) h)
def a6g (x0 : o0) (H : Hp) (K : f7 → Hp → Prop) : Prop :=
 K (f7.P8 (V4.mk x0)) H
theorem b3v (x0) {H K} (h : a6g x0 H K) : a8P x0 H K := by
 refine Ct.of fun w0 w ps0 H0 R E I hR => c8I ?_
 unfold a6g at h
 unfold d1J
 refine F0 I (cs := (h9 x0)) rfl fun b c a d => ?_
 refine b6 (lW Tryz.isAgg59 Tryz.sizeOf59 rfl a) (a8 (b9L _ _ _ _ _ _ _ _) (a8 (b7f (V4.mk x0)) ?_))
 exact hR _ H _ _ a.drop ⟨(f7.P8 (V4.mk x0)), rfl, rfl, h⟩
def a4y (x0 : V4) (H : Hp) (K : Sl → Hp → Prop) : Prop :=
 B2 x0.u9.m6 H (fun d e =>
 E9 x0.u9.v8 e (fun f g =>
 ∀ (a : Sl) (b : Hp), Hle g b → SlH b 1 csl a [d, f] → a.n ≤ a.c →
 E1 a b (fun i j =>
 K i j)))
theorem b1f (x0) {H K} (h : a4y x0 H K) : a6P x0 H K := by
 refine Ct.of fun w0 w ps0 H0 R E I hR => c8G ?_
 unfold a4y at h
 unfold d1H
 refine F0 I (cs := (h9 x0.u9)) rfl fun v y b z => ?_
 refine U6 b fun aa a => ?_
 refine j8 a3s ?_
 refine j8 a0k ?_
 refine j8 a3s ?_
 refine j8 O3 ?_
 refine u7 (l1 Tryz.isAgg51 a rfl) ?_
 refine u7 (l1 Tryz.isAgg57 a rfl) ?_
 refine i6 Tryz.call189 h a ?_
 rintro _ ab _ ac d _ f ⟨g, rfl, rfl, h⟩
 refine ⟨(f _ a.lt1 (Inv.a5M (Fi := []) a)), ?_⟩
 refine i6 Tryz.call193 h d ?_
 rintro _ ad _ ae i _ _ ⟨j, rfl, rfl, h⟩
 refine a2l (e := 137) (c := csl) (xs := [g, j]) i (b9M _ _ _ _ _ _) rfl rfl b3e b3f (nb rfl) fun k af ag l m ah => ?_
 obtain ⟨n, o, p, q, r⟩ := Inv.freezeC m l (by decide)
 replace h := h k n p q r
 refine i6 Tryz.call75 h o ?_
 rintro _ s _ ai t _ _ ⟨u, rfl, rfl, h⟩
 exact hR _ s _ _ t.drop ⟨u, rfl, rfl, h⟩
def a4z (x0 : V5) (H : Hp) (K : Sl → Hp → Prop) : Prop :=
 E9 x0.m4.y6 H (fun d e =>
 B2 x0.m4.m6 e (fun f g =>
 B1 x0.m4.K7 g (fun i j =>
 B1 x0.m4.L0 j (fun k l =>
 ∀ (a : Sl) (b : Hp), Hle l b → SlH b 1 csl a [d, f, i, k] → a.n ≤ a.c →
 E1 a b (fun m o =>
 K m o)))))
theorem b1g (x0) {H K} (h : a4z x0 H K) : a6R x0 H K := by
 refine Ct.of fun w0 w ps0 H0 R E I hR => c8M ?_
 unfold a4z at h
 unfold d1N
 refine F0 I (cs := (f8 x0.m4)) rfl fun ad ae i af => ?_
 refine U6 i fun ag a => ?_
 refine j8 Q8 ?_
 refine j8 V7 ?_
 refine j8 Q8 ?_
 refine j8 V8 ?_
 refine j8 Q8 ?_
 refine j8 a0O ?_
 refine j8 Q8 ?_
 refine j8 a1Q ?_
 refine u7 (l1 Tryz.isAgg57 a rfl) ?_
 refine u7 (l1 Tryz.isAgg51 a rfl) ?_
 refine u7 (l1 Tryz.isAgg23 a rfl) ?_
 refine u7 (l1 Tryz.isAgg23 a rfl) ?_
 refine i6 Tryz.call193 h a ?_
 rintro _ _ _ ah b _ d ⟨j, rfl, rfl, h⟩
 refine ⟨(d _ a.lt1 (Inv.a5M (Fi := []) a)), (d _ a.lt1 (Inv.a5M (Fi := []) a)), (d _ a.lt1 (Inv.a5M (Fi := []) a)), ?_⟩
 refine i6 Tryz.call189 h b ?_
 rintro _ _ _ ai f _ g ⟨k, rfl, rfl, h⟩
 refine ⟨(g _ b.lt1 (Inv.a5M (Fi := []) b)), (g _ b.lt1 (Inv.a5M (Fi := []) b)), ?_⟩
 refine i6 Tryz.call78 h f ?_
 rintro _ _ _ aj l _ m ⟨n, rfl, rfl, h⟩
 refine ⟨(m _ f.lt1 (Inv.a5M (Fi := []) f)), ?_⟩
 refine i6 Tryz.call78 h l ?_
 rintro _ _ _ ak o _ _ ⟨p, rfl, rfl, h⟩
 refine a2l (e := 137) (c := csl) (xs := [j, k, n, p]) o (c6s _ _ _ _ _ _ _ _ _ _ _ _) rfl rfl b3e b3f (nb rfl) fun q al am r s an => ?_
 obtain ⟨t, u, v, y, z⟩ := Inv.freezeC s r (by decide)
 replace h := h q t v y z
 refine i6 Tryz.call75 h u ?_
 rintro _ aa _ ao ab _ _ ⟨ac, rfl, rfl, h⟩
 exact hR _ aa _ _ ab.drop ⟨ac, rfl, rfl, h⟩
end Go.Proofs.YtnhkdkcgdcgmdaaGreatDoor
