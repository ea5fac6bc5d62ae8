/- Typed formulas of the program's functions, and the theorems that the contracts follow from them; printed by lift.py off the code. -/
import Derived.Test.YthklmeihgmcljaaDoorzTV1
namespace Go.Proofs.YthklmeihgmcljaaDoor
open Go.RowKit
set_option maxRecDepth 100000
set_option maxHeartbeats 2000000
def R0 (x0 : ByteArray) (H : Hp) (K : Bool → Hp → Prop) : Prop :=
 B4 x0 H (fun a b =>
 K (decide (32 < a)) b)
theorem a1x (x0 : ByteArray) {H : Hp} {K : Bool → Hp → Prop} (h : R0 x0 H K) : Q9 x0 H K := by
 refine Ct.of fun w0 w ps0 H0 R E I hR => a8d ?_
 unfold R0 at h
 unfold F28
 refine f8 Tryd.call50 h I ?_
 rintro _ a _ d b _ _ ⟨c, rfl, rfl, h⟩
 refine a7 (V1 _ _ _ _ _ _) ?_
 exact hR _ a _ _ b ⟨(decide (32 < c)), rfl, rfl, h⟩
def r7 (O9 : ByteArray) (y6 : Int) (a : a6) (H : Hp) (K : a6 → Int → Int → Hp → Prop) : Prop :=
 (0 : Int) ≤ y6 ∧ y6 < (O9.size : Int) ∧
 ((decide (((O9.get! (y6 : Int).toNat).toNat : Int) = 38)) = false → (0 : Int) ≤ y6 ∧ y6 < (O9.size : Int)) ∧
 (((decide (((O9.get! (y6 : Int).toNat).toNat : Int) = 38)) || (decide (((O9.get! (y6 : Int).toNat).toNat : Int) = 124))) = true →
 K (a6.mk 0 ⟨#[]⟩ 0 (a8.mk 0 0)) 0 20 H) ∧
 (((decide (((O9.get! (y6 : Int).toNat).toNat : Int) = 38)) || (decide (((O9.get! (y6 : Int).toNat).toNat : Int) = 124))) = false →
 (0 : Int) ≤ y6 ∧ (y6 : Int) ≤ IntKind.wrap .i64 (y6 + 1) ∧ (IntKind.wrap .i64 (y6 + 1) : Int) ≤ O9.size ∧
 K (a6.mk 4 (O9.extract (y6 : Int).toNat (IntKind.wrap .i64 (y6 + 1) : Int).toNat) 0 (a8.mk 0 0)) (IntKind.wrap .i64 (y6 + 1)) 0 H)
def m2 (a6t : ByteArray) (a0S : Int) (a1h : Bool) (a : a6) (H : Hp) (K : a6 → Int → Int → Hp → Prop) : Prop :=
 (a1h = true →
 (0 : Int) ≤ a0S ∧ (a0S : Int) ≤ IntKind.wrap .i64 (a0S + 2) ∧ (IntKind.wrap .i64 (a0S + 2) : Int) ≤ a6t.size ∧
 K (a6.mk 4 (a6t.extract (a0S : Int).toNat (IntKind.wrap .i64 (a0S + 2) : Int).toNat) 0 (a8.mk 0 0)) (IntKind.wrap .i64 (a0S + 2)) 0 H) ∧
 (a1h = false →
 r7 a6t a0S a H K)
def J6 (x0 : ByteArray) (x1 : Int) (H : Hp) (K : a6 → Int → Int → Hp → Prop) : Prop :=
 ((IntKind.wrap .i64 (x1 + 1)) < (x0.size : Int) →
 (0 : Int) ≤ x1 ∧ (x1 : Int) ≤ IntKind.wrap .i64 (x1 + 2) ∧ (IntKind.wrap .i64 (x1 + 2) : Int) ≤ x0.size ∧
 ((x0.extract (x1 : Int).toNat (IntKind.wrap .i64 (x1 + 2) : Int).toNat) = ⟨#[61, 61]⟩ →
 m2 x0 x1 (decide ((x0.extract (x1 : Int).toNat (IntKind.wrap .i64 (x1 + 2) : Int).toNat) = ⟨#[61, 61]⟩)) (a6.mk 0 ⟨#[]⟩ 0 (a8.mk 0 0)) H K) ∧
 (¬ ((x0.extract (x1 : Int).toNat (IntKind.wrap .i64 (x1 + 2) : Int).toNat) = ⟨#[61, 61]⟩) →
 ((x0.extract (x1 : Int).toNat (IntKind.wrap .i64 (x1 + 2) : Int).toNat) = ⟨#[33, 61]⟩ →
 m2 x0 x1 (decide ((x0.extract (x1 : Int).toNat (IntKind.wrap .i64 (x1 + 2) : Int).toNat) = ⟨#[33, 61]⟩)) (a6.mk 0 ⟨#[]⟩ 0 (a8.mk 0 0)) H K) ∧
 (¬ ((x0.extract (x1 : Int).toNat (IntKind.wrap .i64 (x1 + 2) : Int).toNat) = ⟨#[33, 61]⟩) →
 ((x0.extract (x1 : Int).toNat (IntKind.wrap .i64 (x1 + 2) : Int).toNat) = ⟨#[60, 61]⟩ →
 m2 x0 x1 (decide ((x0.extract (x1 : Int).toNat (IntKind.wrap .i64 (x1 + 2) : Int).toNat) = ⟨#[60, 61]⟩)) (a6.mk 0 ⟨#[]⟩ 0 (a8.mk 0 0)) H K) ∧
 (¬ ((x0.extract (x1 : Int).toNat (IntKind.wrap .i64 (x1 + 2) : Int).toNat) = ⟨#[60, 61]⟩) →
 ((x0.extract (x1 : Int).toNat (IntKind.wrap .i64 (x1 + 2) : Int).toNat) = ⟨#[62, 61]⟩ →
 m2 x0 x1 (decide ((x0.extract (x1 : Int).toNat (IntKind.wrap .i64 (x1 + 2) : Int).toNat) = ⟨#[62, 61]⟩)) (a6.mk 0 ⟨#[]⟩ 0 (a8.mk 0 0)) H K) ∧
 (¬ ((x0.extract (x1 : Int).toNat (IntKind.wrap .i64 (x1 + 2) : Int).toNat) = ⟨#[62, 61]⟩) →
 ((x0.extract (x1 : Int).toNat (IntKind.wrap .i64 (x1 + 2) : Int).toNat) = ⟨#[38, 38]⟩ →
 m2 x0 x1 (decide ((x0.extract (x1 : Int).toNat (IntKind.wrap .i64 (x1 + 2) : Int).toNat) = ⟨#[38, 38]⟩)) (a6.mk 0 ⟨#[]⟩ 0 (a8.mk 0 0)) H K) ∧
 (¬ ((x0.extract (x1 : Int).toNat (IntKind.wrap .i64 (x1 + 2) : Int).toNat) = ⟨#[38, 38]⟩) →
 m2 x0 x1 (decide ((x0.extract (x1 : Int).toNat (IntKind.wrap .i64 (x1 + 2) : Int).toNat) = ⟨#[124, 124]⟩)) (a6.mk 0 ⟨#[]⟩ 0 (a8.mk 0 0)) H K)))))) ∧
 (¬ ((IntKind.wrap .i64 (x1 + 1)) < (x0.size : Int)) →
 r7 x0 x1 (a6.mk 0 ⟨#[]⟩ 0 (a8.mk 0 0)) H K)
theorem Y4 (x0 : ByteArray) (x1 : Int) {H : Hp} {K : a6 → Int → Int → Hp → Prop} (h : J6 x0 x1 H K) : J4 x0 x1 H K := by
 refine Ct.of fun w0 w ps0 H0 R E I hR => a8t ?_
 unfold J6 at h
 unfold F48
 refine s8 I Tryd.zeroValue33 (cs := [(vi 0), (Value.string ⟨#[]⟩), (vi 0), (vi 0), (vi 0)]) rfl fun d v c y => ?_
 have hj1 : ∀ (H : Hp) (w : World) (_ : Inv w0 ps0 H0 H [bx d 33 [(vi (a6.mk 0 ⟨#[]⟩ 0 (a8.mk 0 0)).P4), (Value.string (a6.mk 0 ⟨#[]⟩ 0 (a8.mk 0 0)).G5), (vi (a6.mk 0 ⟨#[]⟩ 0 (a8.mk 0 0)).O7), (vi (a6.mk 0 ⟨#[]⟩ 0 (a8.mk 0 0)).fAt.m6), (vi (a6.mk 0 ⟨#[]⟩ 0 (a8.mk 0 0)).fAt.r6)]] w) (_ : r7 x0 x1 (a6.mk 0 ⟨#[]⟩ 0 (a8.mk 0 0)) H K), a3x (Value.string x0) (vi x1) (Value.pointer (some ⟨d, 0, none⟩)) w R E := by
  intro H w I h
  unfold a3x
  intro _
  unfold r7 at h
  obtain ⟨j, k, h⟩ := h
  refine a7 (E9 _ _ _ j k) ?_
  refine a7 (k6 _ _ _ _ _ _) ?_
  simp only [o3]
  obtain ⟨b, h⟩ := h
  refine a7 (Pu.g fun hb => by have a := hb; simp only [m1 a]; with_reducible exact (E9 _ _ _ (b hb).1 (b hb).2)) ?_
  refine a7 (Pu.g fun hb => by have a := hb; simp only [m1 a]; with_reducible exact (k6 _ _ _ _ _ _)) ?_
  refine a7 (K9 _ _) ?_
  refine m0 h (fun _ h => ?_) (fun _ h => ?_)
  ·refine a7 (N5 ) ?_
   refine g8 I Tryd.sizeOf33 (vs := [(vi 0), (Value.string ⟨#[]⟩), (vi 0), (vi 0), (vi 0)]) (cs' := [(vi 0), (Value.string ⟨#[]⟩), (vi 0), (vi 0), (vi 0)]) rfl rfl (nb rfl) rfl rfl fun z e aa => ?_
   refine o5 Tryd.isAgg33 Tryd.sizeOf33 rfl (e.at1 (o := 0) (vs := [(vi 0), (Value.string ⟨#[]⟩), (vi 0), (vi 0), (vi 0)]) (nb rfl) rfl) ?_
   exact hR _ H _ _ e.drop ⟨(a6.mk 0 ⟨#[]⟩ 0 (a8.mk 0 0)), 0, 20, rfl, rfl, h⟩
  ·refine a7 (q6 _ _ _ _ _ _) ?_
   obtain ⟨l, m, n, h⟩ := h
   refine a7 (O0 x0 Tryd.underlying9 l m n) ?_
   refine a7 (C3 _ _) ?_
   refine a7 (q6 _ _ _ _ _ _) ?_
   refine g8 I Tryd.sizeOf33 (vs := [(vi 4), (Value.string (x0.extract (x1 : Int).toNat (IntKind.wrap .i64 (x1 + 1) : Int).toNat)), (vi 0), (vi 0), (vi 0)]) (cs' := [(vi 4), (Value.string (x0.extract (x1 : Int).toNat (IntKind.wrap .i64 (x1 + 1) : Int).toNat)), (vi 0), (vi 0), (vi 0)]) rfl rfl (nb rfl) rfl rfl fun ab f ac => ?_
   refine o5 Tryd.isAgg33 Tryd.sizeOf33 rfl (f.at1 (o := 0) (vs := [(vi 4), (Value.string (x0.extract (x1 : Int).toNat (IntKind.wrap .i64 (x1 + 1) : Int).toNat)), (vi 0), (vi 0), (vi 0)]) (nb rfl) rfl) ?_
   exact hR _ H _ _ f.drop ⟨(a6.mk 4 (x0.extract (x1 : Int).toNat (IntKind.wrap .i64 (x1 + 1) : Int).toNat) 0 (a8.mk 0 0)), (IntKind.wrap .i64 (x1 + 1)), 0, rfl, rfl, h⟩
 refine r5 fun j1 hx1 => ?_
 refine a7 (q6 _ _ _ _ _ _) ?_
 refine a7 (y5 _) ?_
 refine a7 (A9 _ _ _ _ _ _) ?_
 refine d7 h (fun _ h => ?_) (fun _ h => ?_)
 ·refine a7 (q6 _ _ _ _ _ _) ?_
  obtain ⟨p, q, r, h⟩ := h
  refine a7 (O0 x0 Tryd.underlying9 p q r) ?_
  have hj2 : ∀ (a1h : Bool) (H : Hp) (w : World) (_ : Inv w0 ps0 H0 H [bx d 33 [(vi (a6.mk 0 ⟨#[]⟩ 0 (a8.mk 0 0)).P4), (Value.string (a6.mk 0 ⟨#[]⟩ 0 (a8.mk 0 0)).G5), (vi (a6.mk 0 ⟨#[]⟩ 0 (a8.mk 0 0)).O7), (vi (a6.mk 0 ⟨#[]⟩ 0 (a8.mk 0 0)).fAt.m6), (vi (a6.mk 0 ⟨#[]⟩ 0 (a8.mk 0 0)).fAt.r6)]] w) (_ : m2 x0 x1 a1h (a6.mk 0 ⟨#[]⟩ 0 (a8.mk 0 0)) H K), a3y (Value.string x0) (vi x1) (Value.pointer (some ⟨d, 0, none⟩)) (Value.bool a1h) w j1 R E := by
   intro a1h H w I h
   unfold a3y
   intro _
   unfold m2 at h
   refine m0 h (fun _ h => ?_) (fun _ h => ?_)
   ·refine a7 (q6 _ _ _ _ _ _) ?_
    obtain ⟨s, t, u, h⟩ := h
    refine a7 (O0 x0 Tryd.underlying9 s t u) ?_
    refine a7 (C3 _ _) ?_
    refine a7 (q6 _ _ _ _ _ _) ?_
    refine g8 I Tryd.sizeOf33 (vs := [(vi 4), (Value.string (x0.extract (x1 : Int).toNat (IntKind.wrap .i64 (x1 + 2) : Int).toNat)), (vi 0), (vi 0), (vi 0)]) (cs' := [(vi 4), (Value.string (x0.extract (x1 : Int).toNat (IntKind.wrap .i64 (x1 + 2) : Int).toNat)), (vi 0), (vi 0), (vi 0)]) rfl rfl (nb rfl) rfl rfl fun ad i ae => ?_
    refine o5 Tryd.isAgg33 Tryd.sizeOf33 rfl (i.at1 (o := 0) (vs := [(vi 4), (Value.string (x0.extract (x1 : Int).toNat (IntKind.wrap .i64 (x1 + 2) : Int).toNat)), (vi 0), (vi 0), (vi 0)]) (nb rfl) rfl) ?_
    exact hR _ H _ _ i.drop ⟨(a6.mk 4 (x0.extract (x1 : Int).toNat (IntKind.wrap .i64 (x1 + 2) : Int).toNat) 0 (a8.mk 0 0)), (IntKind.wrap .i64 (x1 + 2)), 0, rfl, rfl, h⟩
   ·exact hx1 _ _ (hj1 H _ I h)
  refine r5 fun j2 hx2 => ?_
  refine a7 (q7 _ _ _ _ _) ?_
  refine d7 h (fun _ h => ?_) (fun _ h => ?_)
  ·exact hx2 _ _ (hj2 (decide ((x0.extract (x1 : Int).toNat (IntKind.wrap .i64 (x1 + 2) : Int).toNat) = ⟨#[61, 61]⟩)) H _ c h)
  ·refine a7 (q7 _ _ _ _ _) ?_
   refine d7 h (fun _ h => ?_) (fun _ h => ?_)
   ·exact hx2 _ _ (hj2 (decide ((x0.extract (x1 : Int).toNat (IntKind.wrap .i64 (x1 + 2) : Int).toNat) = ⟨#[33, 61]⟩)) H _ c h)
   ·refine a7 (q7 _ _ _ _ _) ?_
    refine d7 h (fun _ h => ?_) (fun _ h => ?_)
    ·exact hx2 _ _ (hj2 (decide ((x0.extract (x1 : Int).toNat (IntKind.wrap .i64 (x1 + 2) : Int).toNat) = ⟨#[60, 61]⟩)) H _ c h)
    ·refine a7 (q7 _ _ _ _ _) ?_
     refine d7 h (fun _ h => ?_) (fun _ h => ?_)
     ·exact hx2 _ _ (hj2 (decide ((x0.extract (x1 : Int).toNat (IntKind.wrap .i64 (x1 + 2) : Int).toNat) = ⟨#[62, 61]⟩)) H _ c h)
     ·refine a7 (q7 _ _ _ _ _) ?_
      refine d7 h (fun _ h => ?_) (fun _ h => ?_)
      ·exact hx2 _ _ (hj2 (decide ((x0.extract (x1 : Int).toNat (IntKind.wrap .i64 (x1 + 2) : Int).toNat) = ⟨#[38, 38]⟩)) H _ c h)
      ·refine a7 (q7 _ _ _ _ _) ?_
       exact hx2 _ _ (hj2 (decide ((x0.extract (x1 : Int).toNat (IntKind.wrap .i64 (x1 + 2) : Int).toNat) = ⟨#[124, 124]⟩)) H _ c h)
 ·exact hx1 _ _ (hj1 H _ c h)
def D3 (H : Hp) (K : Int → Int → Hp → Prop) : Prop :=
 K 0 0 H
def y7 (p9 : ByteArray) (E6 : Int) (H : Hp) (n2 : Int → Hp → Prop) (K : Int → Int → Hp → Prop) : Prop :=
 (E6 < (p9.size : Int) →
 u1 p9 E6 H (fun d c a b =>
 ((!a) = true →
 K E6 11 b) ∧
 ((!a) = false →
 n2 (IntKind.wrap .i64 (E6 + c)) b))) ∧
 (¬ (E6 < (p9.size : Int)) →
 D3 H K)
def G8 (x0 : ByteArray) (H : Hp) (K : Int → Int → Hp → Prop) : Prop :=
 (65536 < (x0.size : Int) →
 K 0 10 H) ∧
 (¬ (65536 < (x0.size : Int)) →
 TL (0 : Int) H fun (s : Int) H n2 => y7 x0 s H n2 K)
theorem W9 (x0 : ByteArray) {H : Hp} {K : Int → Int → Hp → Prop} (h : G8 x0 H K) : G7 x0 H K := by
 refine Ct.of fun w0 w ps0 H0 R E I hR => a7Y ?_
 unfold G8 at h
 unfold F22
 refine a7 (y5 _) ?_
 refine a7 (V1 _ _ _ _ _ _) ?_
 refine d7 h (fun _ h => ?_) (fun _ h => ?_)
 ·exact hR _ H _ _ I ⟨0, 10, rfl, rfl, h⟩
 ·have hj1 : ∀ (H : Hp) (w : World) (_ : Inv w0 ps0 H0 H [] w) (_ : D3 H K), a3g w R E := by
   intro H w I h
   unfold a3g
   intro _
   unfold D3 at h
   exact hR _ H _ _ I ⟨0, 0, rfl, rfl, h⟩
  refine r5 fun j1 hx1 => ?_
  obtain ⟨d, c, j, k⟩ := h
  refine u6 (J := fun n l w => ∃ (s : Int) (H : Hp) , n = c s ∧ l = [(vi s)] ∧ Inv w0 ps0 H0 H [] w ∧ d s H) ⟨_, 0, H, rfl, rfl, I, j⟩ ?_
  rintro q r w next2 ⟨E6, H, rfl, e, I, m⟩ hn2
  simp only [List.map_cons, List.map_nil, List.cons.injEq, and_true] at e
  have e4 := e
  simp only [e4]
  obtain ⟨n2, hm2, h⟩ : ∃ n2 : Int → Hp → Prop, (∀ s' H', n2 s' H' → d s' H' ∧ c s' < c E6) ∧ y7 x0 E6 H n2 K := ⟨_, fun _ _ h => h, k E6 H (fun s' H' => d s' H' ∧ c s' < c E6) m (fun _ _ a b => ⟨a, b⟩)⟩
  unfold a5t
  unfold y7 at h
  refine a7 (y5 _) ?_
  refine a7 (A9 _ _ _ _ _ _) ?_
  refine d7 h (fun _ h => ?_) (fun _ h => ?_)
  ·refine f8 Tryd.call31 h I ?_
   rintro _ f _ t g _ _ ⟨o, i, p, rfl, rfl, h⟩
   refine a7 (b8 _ _ (vi o) rfl) ?_
   refine a7 (b8 _ _ (vi i) rfl) ?_
   refine a7 (b8 _ _ (Value.bool p) rfl) ?_
   refine a7 (a2V _) ?_
   refine m0 h (fun _ h => ?_) (fun _ h => ?_)
   ·exact hR _ f _ _ g ⟨E6, 11, rfl, rfl, h⟩
   ·refine a7 (q6 _ _ _ _ _ _) ?_
    exact hn2 _ _ _ (hm2 _ _ h).2 ⟨(IntKind.wrap .i64 (E6 + i)), f, rfl, rfl, g, (hm2 _ _ h).1⟩
  ·exact hx1 _ _ (hj1 H _ I h)
def t6 (a8A : ByteArray) (a0v : Int) (a6u : Int) (b0a : Int) (a : a8) (b : a8) (H : Hp) (n2 : (Int × a8 × a8) → Hp → Prop) (K : a8 → Hp → Prop) : Prop :=
 n2 ((IntKind.wrap .i64 (a6u + b0a)), a, b) H
def B8 (a : a8) (b : a8) (H : Hp) (K : a8 → Hp → Prop) : Prop :=
 K a H
def B9 (p9 : ByteArray) (C4 : Int) (o2 : Int) (a : a8) (b : a8) (H : Hp) (n2 : (Int × a8 × a8) → Hp → Prop) (K : a8 → Hp → Prop) : Prop :=
 (((decide (o2 < (p9.size : Int))) && (decide (o2 < C4))) = true →
 u1 p9 o2 H (fun c d f e =>
 (c = 10 →
 t6 p9 C4 o2 d (a8.mk (IntKind.wrap .i64 (a.m6 + 1)) 1) b e n2 K) ∧
 (¬ (c = 10) →
 t6 p9 C4 o2 d (a8.mk a.m6 (IntKind.wrap .i64 (a.r6 + 1))) b e n2 K))) ∧
 (((decide (o2 < (p9.size : Int))) && (decide (o2 < C4))) = false →
 B8 a b H K)
def M7 (x0 : ByteArray) (x1 : Int) (H : Hp) (K : a8 → Hp → Prop) : Prop :=
 TL ((0, (a8.mk 1 1), (a8.mk 0 0)) : Int × a8 × a8) H fun (s : Int × a8 × a8) H n2 => B9 x0 x1 s.1 s.2.1 s.2.2 H n2 K
theorem a0d (x0 : ByteArray) (x1 : Int) {H : Hp} {K : a8 → Hp → Prop} (h : M7 x0 x1 H K) : M6 x0 x1 H K := by
 refine Ct.of fun w0 w ps0 H0 R E I hR => a7Z ?_
 unfold M7 at h
 unfold F23
 refine s8 I Tryd.zeroValue25 (cs := [(vi 0), (vi 0)]) rfl fun i ak aa al => ?_
 refine a7 (M0 _ _) ?_
 refine s8 aa Tryd.zeroValue25 (cs := [(vi 0), (vi 0)]) rfl fun j am ab an => ?_
 refine g8 ab Tryd.sizeOf25 (vs := [(vi 1), (vi 1)]) (cs' := [(vi 1), (vi 1)]) rfl rfl (nb rfl) rfl rfl fun ao ac ap => ?_
 have hj1 : ∀ (f : a8) (q : a8) (H : Hp) (w : World) (_ : Inv w0 ps0 H0 H [bx j 25 (c8 f), bx i 25 (c8 q)] w) (_ : B8 f q H K), a3h (Value.pointer (some ⟨i, 0, none⟩)) (Value.pointer (some ⟨j, 0, none⟩)) w R E := by
  intro f q H w I h
  unfold a3h
  intro _
  unfold B8 at h
  refine o0 (lW Tryd.isAgg25 Tryd.sizeOf25 rfl I) ?_
  refine g8 (I.bring 1) Tryd.sizeOf25 (vs := (c8 f)) (cs' := (c8 f)) rfl rfl (nb rfl) rfl rfl fun aq v ar => ?_
  refine o5 Tryd.isAgg25 Tryd.sizeOf25 rfl (v.at1 (o := 0) (vs := (c8 f)) (nb rfl) rfl) ?_
  exact hR _ H _ _ v.drop.drop ⟨f, rfl, rfl, h⟩
 refine r5 fun j1 hx1 => ?_
 obtain ⟨r, k, ad, ae⟩ := h
 refine u6 (J := fun n l w => ∃ (s : Int × a8 × a8) (H : Hp) , n = k s ∧ l = (match s with | (o2, c, e) => [(vi o2)]) ∧ (match s with | (o2, c, e) => Inv w0 ps0 H0 H [bx j 25 (c8 c), bx i 25 (c8 e)] w) ∧ r s H) ⟨_, (0, (a8.mk 1 1), (a8.mk 0 0)), H, rfl, rfl, ((ac.bring 1).bring 1), ad⟩ ?_
 rintro au av w next2 ⟨⟨o2, c, e⟩, H, rfl, t, I, af⟩ hn2
 dsimp only at t I
 simp only [List.map_cons, List.map_nil, List.cons.injEq, and_true] at t
 have e6 := t
 simp only [e6]
 obtain ⟨n2, hm2, h⟩ : ∃ n2 : (Int × a8 × a8) → Hp → Prop, (∀ s' H', n2 s' H' → r s' H' ∧ k s' < k (o2, c, e)) ∧ B9 x0 x1 o2 c e H n2 K := ⟨_, fun _ _ h => h, ae (o2, c, e) H (fun s' H' => r s' H' ∧ k s' < k (o2, c, e)) af (fun _ _ a b => ⟨a, b⟩)⟩
 unfold a5u
 unfold B9 at h
 refine a7 (y5 _) ?_
 refine a7 (A9 _ _ _ _ _ _) ?_
 simp only [o3]
 refine a7 (Pu.g fun hb => by have d := hb; simp only [m1 d]; with_reducible exact (A9 _ _ _ _ _ _)) ?_
 refine a7 (s4 _ _) ?_
 refine m0 h (fun _ h => ?_) (fun _ h => ?_)
 ·refine f8 Tryd.call31 h I ?_
  rintro _ y _ aw z _ _ ⟨ag, m, ah, rfl, rfl, h⟩
  refine a7 (b8 _ _ (vi ag) rfl) ?_
  refine a7 (b8 _ _ (vi m) rfl) ?_
  refine a7 (b8 _ _ (Value.bool ah) rfl) ?_
  refine a7 M3 ?_
  refine o0 (l1 Tryd.isAgg3 z rfl) ?_
  refine a7 (q6 _ _ _ _ _ _) ?_
  refine a7 M3 ?_
  refine g8 z Tryd.sizeOf3 (vs := [(vi (IntKind.wrap .i64 (c.r6 + 1)))]) (cs' := [(vi c.m6), (vi (IntKind.wrap .i64 (c.r6 + 1)))]) rfl rfl (nb rfl) rfl rfl fun ax u ay => ?_
  have hj3 : ∀ (p : a8) (H : Hp) (w : World) (_ : Inv w0 ps0 H0 H [bx j 25 (c8 p), bx i 25 (c8 e)] w) (_ : t6 x0 x1 o2 m p e H n2 K), a3i (Value.string x0) (vi x1) (Value.pointer (some ⟨i, 0, none⟩)) (Value.pointer (some ⟨j, 0, none⟩)) (vi o2) (vi m) w next2 R E := by
   intro p H w I h
   unfold a3i
   intro _
   unfold t6 at h
   refine a7 (q6 _ _ _ _ _ _) ?_
   exact hn2 _ _ _ (hm2 _ _ h).2 ⟨((IntKind.wrap .i64 (o2 + m)), p, e), H, rfl, rfl, ((I.bring 1).bring 1), (hm2 _ _ h).1⟩
  refine r5 fun j3 hx3 => ?_
  refine a7 (k6 _ _ _ _ _ _) ?_
  refine d7 h (fun _ h => ?_) (fun _ h => ?_)
  ·refine a7 S8 ?_
   refine o0 (l1 Tryd.isAgg3 u rfl) ?_
   refine a7 (q6 _ _ _ _ _ _) ?_
   refine a7 S8 ?_
   refine g8 u Tryd.sizeOf3 (vs := [(vi (IntKind.wrap .i64 (c.m6 + 1)))]) (cs' := [(vi (IntKind.wrap .i64 (c.m6 + 1))), (vi (IntKind.wrap .i64 (c.r6 + 1)))]) rfl rfl (nb rfl) rfl rfl fun az ai ba => ?_
   refine a7 M3 ?_
   refine g8 ai Tryd.sizeOf3 (vs := [(vi 1)]) (cs' := [(vi (IntKind.wrap .i64 (c.m6 + 1))), (vi 1)]) rfl rfl (nb rfl) rfl rfl fun bb aj bc => ?_
   exact hx3 _ _ (hj3 (a8.mk (IntKind.wrap .i64 (c.m6 + 1)) 1) y _ ((aj.bring 1).bring 1) h)
  ·exact hx3 _ _ (hj3 (a8.mk c.m6 (IntKind.wrap .i64 (c.r6 + 1))) y _ ((u.bring 1).bring 1) h)
 ·exact hx1 _ _ (hj1 c e H _ ((I.bring 1).bring 1) h)
def J9 (x0 : b5) (a : (List a6)) (H : Hp) (K : ByteArray → Hp → Prop) : Prop :=
 (0 : Int) ≤ x0.fn ∧ (x0.fn : Int) ≤ x0.fs.size ∧
 K (x0.fs.extract (x0.fn : Int).toNat x0.fs.size) H
theorem Y5 (x0 : b5) (b : (List a6)) {H : Hp} {K : ByteArray → Hp → Prop} (h : J9 x0 b H K) : u4 x0 b H K := by
 intro g0 e f g
 refine Ct.of fun w0 w ps0 H0 R E I hR => a8k ?_
 unfold J9 at h
 unfold F39
 refine V7 I fun i a => ?_
 refine r4 (q9 _) ?_
 refine r4 S7 ?_
 refine r4 (q9 _) ?_
 refine r4 B1 ?_
 refine E8 (l1 Tryd.isAgg9 a rfl) ?_
 refine E8 (l1 Tryd.isAgg3 a rfl) ?_
 obtain ⟨c, d, h⟩ := h
 refine r4 (a4h x0.fs Tryd.underlying9 c d) ?_
 exact hR _ H _ _ ((a.bring 1).bring 1) ⟨(x0.fs.extract (x0.fn : Int).toNat x0.fs.size), rfl, rfl, h⟩
def B5 (x0 : ByteArray) (x1 : ByteArray) (H : Hp) (K : Bool → Hp → Prop) : Prop :=
 ((decide ((x1.size : Int) ≤ (x0.size : Int))) = true → (0 : Int) ≤ (x1.size : Int) ∧ ((x1.size : Int) : Int) ≤ x0.size) ∧
 K ((decide ((x1.size : Int) ≤ (x0.size : Int))) && (decide ((x0.extract 0 ((x1.size : Int) : Int).toNat) = x1))) H
theorem S0 (x0 : ByteArray) (x1 : ByteArray) {H : Hp} {K : Bool → Hp → Prop} (h : B5 x0 x1 H K) : J5 x0 x1 H K := by
 refine Ct.of fun w0 w ps0 H0 R E I hR => a8y ?_
 unfold B5 at h
 unfold F57
 refine a7 (y5 _) ?_
 refine a7 (y5 _) ?_
 refine a7 (P9 _ _ _ _ _ _) ?_
 simp only [o3]
 refine a7 (Pu.g fun hb => by have a := hb; simp only [m1 a]; with_reducible exact (y5 _)) ?_
 obtain ⟨b, h⟩ := h
 refine a7 (Pu.g fun hb => by have a := hb; simp only [m1 a]; with_reducible exact (a4i x0 Tryd.underlying9 (b hb).1 (b hb).2)) ?_
 refine a7 (Pu.g fun hb => by have a := hb; simp only [m1 a]; with_reducible exact (q7 _ _ _ _ _)) ?_
 refine a7 (s4 _ _) ?_
 exact hR _ H _ _ I ⟨((decide ((x1.size : Int) ≤ (x0.size : Int))) && (decide ((x0.extract 0 ((x1.size : Int) : Int).toNat) = x1))), rfl, rfl, h⟩
def K0 (x0 : b5) (a : (List a6)) (H : Hp) (K : b5 → (List a6) → Hp → Prop) : Prop :=
 u4 (g5 x0) a H (fun e f =>
 B0 e f (fun b c d =>
 (b = 10 →
 K (b5.mk x0.fs (IntKind.wrap .i64 (x0.fn + c)) (a8.mk (IntKind.wrap .i64 (x0.fat.m6 + 1)) 1) (Sl.mk none 0 0)) a d) ∧
 (¬ (b = 10) →
 K (b5.mk x0.fs (IntKind.wrap .i64 (x0.fn + c)) (a8.mk x0.fat.m6 (IntKind.wrap .i64 (x0.fat.r6 + 1))) (Sl.mk none 0 0)) a d)))
theorem Y6 (x0 : b5) (c : (List a6)) {H : Hp} {K : b5 → (List a6) → Hp → Prop} (h : K0 x0 c H K) : l8 x0 c H K := by
 intro g0 b d e
 refine Ct.of fun w0 w ps0 H0 R E I hR => a8x ?_
 unfold K0 at h
 unfold F56
 refine f8 Tryd.call39 (h g0 b d e) ((I.bring 1).bring 1) ?_
 rintro _ n _ o k _ _ ⟨p, rfl, rfl, h⟩
 refine f8 Tryd.call33 h k ?_
 rintro _ g _ q i _ _ ⟨l, a, rfl, rfl, h⟩
 refine a7 (b8 _ _ (Value.int .i32 l) rfl) ?_
 refine a7 (b8 _ _ (vi a) rfl) ?_
 refine a7 (q9 _) ?_
 refine a7 B1 ?_
 refine o0 (l1 Tryd.isAgg3 i rfl) ?_
 refine a7 (q6 _ _ _ _ _ _) ?_
 refine a7 (q9 _) ?_
 refine a7 B1 ?_
 refine g8 i Tryd.sizeOf3 (vs := [(vi (IntKind.wrap .i64 (x0.fn + a)))]) (cs' := [(Value.string x0.fs), (vi (IntKind.wrap .i64 (x0.fn + a))), (vi x0.fat.m6), (vi x0.fat.r6), (vs b)]) rfl rfl (nb rfl) rfl rfl fun r j s => ?_
 refine a7 (q9 _) ?_
 refine a7 Q6 ?_
 refine a7 M3 ?_
 refine o0 (l1 Tryd.isAgg3 j rfl) ?_
 refine a7 (q6 _ _ _ _ _ _) ?_
 refine a7 (q9 _) ?_
 refine a7 Q6 ?_
 refine a7 M3 ?_
 refine g8 j Tryd.sizeOf3 (vs := [(vi (IntKind.wrap .i64 (x0.fat.r6 + 1)))]) (cs' := [(Value.string x0.fs), (vi (IntKind.wrap .i64 (x0.fn + a))), (vi x0.fat.m6), (vi (IntKind.wrap .i64 (x0.fat.r6 + 1))), (vs b)]) rfl rfl (nb rfl) rfl rfl fun t f u => ?_
 refine a7 (k6 _ _ _ _ _ _) ?_
 refine d7 h (fun _ h => ?_) (fun _ h => ?_)
 ·refine a7 (q9 _) ?_
  refine a7 Q6 ?_
  refine a7 S8 ?_
  refine o0 (l1 Tryd.isAgg3 f rfl) ?_
  refine a7 (q6 _ _ _ _ _ _) ?_
  refine a7 (M0 _ _) ?_
  refine a7 (q9 _) ?_
  refine a7 Q6 ?_
  refine g8 f Tryd.sizeOf25 (vs := [(vi (IntKind.wrap .i64 (x0.fat.m6 + 1))), (vi 1)]) (cs' := [(Value.string x0.fs), (vi (IntKind.wrap .i64 (x0.fn + a))), (vi (IntKind.wrap .i64 (x0.fat.m6 + 1))), (vi 1), (vs b)]) rfl rfl (nb rfl) rfl rfl fun v m y => ?_
  exact hR _ g _ _ ((m.bring 1).bring 1) ⟨(b5.mk x0.fs (IntKind.wrap .i64 (x0.fn + a)) (a8.mk (IntKind.wrap .i64 (x0.fat.m6 + 1)) 1) (Sl.mk none 0 0)), c, b, d, rfl, rfl, e, h⟩
 ·exact hR _ g _ _ ((f.bring 1).bring 1) ⟨(b5.mk x0.fs (IntKind.wrap .i64 (x0.fn + a)) (a8.mk x0.fat.m6 (IntKind.wrap .i64 (x0.fat.r6 + 1))) (Sl.mk none 0 0)), c, b, d, rfl, rfl, e, h⟩
def D4 (x0 : Int) (H : Hp) (K : Bool → Hp → Prop) : Prop :=
 v6 x0 H (fun a b =>
 K ((decide (a = 1)) || (decide (a = 2))) b)
theorem T6 (x0 : Int) {H : Hp} {K : Bool → Hp → Prop} (h : D4 x0 H K) : D1 x0 H K := by
 refine Ct.of fun w0 w ps0 H0 R E I hR => a8i ?_
 unfold D4 at h
 unfold F36
 refine f8 Tryd.call30 h I ?_
 rintro _ c _ e d _ _ ⟨b, rfl, rfl, h⟩
 refine a7 (k6 _ _ _ _ _ _) ?_
 simp only [o3]
 refine a7 (Pu.g fun hb => by have a := hb; simp only [m1 a]; with_reducible exact (k6 _ _ _ _ _ _)) ?_
 refine a7 (K9 _ _) ?_
 exact hR _ c _ _ d ⟨((decide (b = 1)) || (decide (b = 2))), rfl, rfl, h⟩
def g9 (L5 : Int) (i7 : ByteArray) (i8 : Int) (l9 : a8) (m3 : (List a6)) (H : Hp) (K : ByteArray → b5 → (List a6) → Hp → Prop) : Prop :=
 (0 : Int) ≤ L5 ∧ (L5 : Int) ≤ i8 ∧ (i8 : Int) ≤ i7.size ∧
 K (i7.extract (L5 : Int).toNat (i8 : Int).toNat) (b5.mk i7 i8 l9 (Sl.mk none 0 0)) m3 H
def k8 (K1 : Int) (o2 : Int) (g7 : Bool) (d9 : ByteArray) (f6 : Int) (d6 : a8) (d8 : (List a6)) (H : Hp) (n2 : (Int × Bool × ByteArray × Int × a8 × (List a6)) → Hp → Prop) (K : ByteArray → b5 → (List a6) → Hp → Prop) : Prop :=
 TG (g7 = true) (D1 o2 H) false H (fun (b : Bool) (c : Hp) =>
 ((g7 && b) = true →
 l8 (b5.mk d9 f6 d6 (Sl.mk none 0 0)) d8 c (fun a d e =>
 j9 (g5 a) d e (fun f g i =>
 n2 (f, g, a.fs, a.fn, a.fat, d) i))) ∧
 ((g7 && b) = false →
 g9 K1 d9 f6 d6 d8 c K))
def o9 (x0 : b5) (a : (List a6)) (H : Hp) (K : ByteArray → b5 → (List a6) → Hp → Prop) : Prop :=
 j9 (g5 x0) a H (fun b c d =>
 TL ((b, c, x0.fs, x0.fn, x0.fat, a) : Int × Bool × ByteArray × Int × a8 × (List a6)) d fun (s : Int × Bool × ByteArray × Int × a8 × (List a6)) H n2 => k8 x0.fn s.1 s.2.1 s.2.2.1 s.2.2.2.1 s.2.2.2.2.1 s.2.2.2.2.2 H n2 K)
theorem D8 (x0 : b5) (q : (List a6)) {H : Hp} {K : ByteArray → b5 → (List a6) → Hp → Prop} (h : o9 x0 q H K) : m8 x0 q H K := by
 intro g0 y z aa
 refine Ct.of fun w0 w ps0 H0 R E I hR => a1R ?_
 unfold o9 at h
 unfold F37
 refine a7 (q9 _) ?_
 refine a7 B1 ?_
 refine o0 (l1 Tryd.isAgg3 I rfl) ?_
 have hj1 : ∀ (i7 : ByteArray) (i8 : Int) (l9 : a8) (m3 : (List a6)) (u7 : Sl) (q5 : Frag) (H : Hp) (w : World) (_ : RowL 33 5 b6 u7 m3 q5) (_ : Inv w0 ps0 H0 H [bx g0 44 [(Value.string i7), (vi i8), (vi l9.m6), (vi l9.r6), (vs u7)], q5] w) (_ : g9 x0.fn i7 i8 l9 m3 H K), S9 (Value.pointer (some ⟨g0, 0, none⟩)) (vi x0.fn) w R E := by
  intro i7 i8 l9 m3 u7 q5 H w M8 I h
  unfold S9
  intro _
  unfold g9 at h
  refine V7 I fun ax r => ?_
  refine r4 (q9 _) ?_
  refine r4 S7 ?_
  refine r4 (q9 _) ?_
  refine r4 B1 ?_
  refine E8 (l1 Tryd.isAgg9 r rfl) ?_
  refine E8 (l1 Tryd.isAgg3 r rfl) ?_
  obtain ⟨ak, al, am, h⟩ := h
  refine r4 (O0 i7 Tryd.underlying9 ak al am) ?_
  exact hR _ H _ _ ((r.bring 1).bring 1) ⟨(i7.extract (x0.fn : Int).toNat (i8 : Int).toNat), (b5.mk i7 i8 l9 (Sl.mk none 0 0)), m3, u7, q5, rfl, rfl, M8, h⟩
 refine r5 fun j1 hx1 => ?_
 refine f8 Tryd.call20 (h g0 y z aa) ((I.bring 1).bring 1) ?_
 rintro _ an _ ay ao _ _ ⟨ab, ac, rfl, rfl, h⟩
 refine a7 (b8 _ _ (Value.int .i32 ab) rfl) ?_
 refine a7 (b8 _ _ (Value.bool ac) rfl) ?_
 obtain ⟨t, g, ap, aq⟩ := h
 refine u6 (J := fun n l w => ∃ (s : Int × Bool × ByteArray × Int × a8 × (List a6)) (H : Hp) (o6 : Sl) (m5 : Frag) , n = g s ∧ l = (match s with | (o2, g7, d9, f6, d6, d8) => [(Value.int .i32 o2), (Value.bool g7)]) ∧ (match s with | (o2, g7, d9, f6, d6, d8) => RowL 33 5 b6 o6 d8 m5) ∧ (match s with | (o2, g7, d9, f6, d6, d8) => Inv w0 ps0 H0 H [bx g0 44 [(Value.string d9), (vi f6), (vi d6.m6), (vi d6.r6), (vs o6)], m5] w) ∧ t s H) ⟨_, (ab, ac, x0.fs, x0.fn, x0.fat, q), an, y, z, rfl, rfl, aa, ((ao.bring 1).bring 1), ap⟩ ?_
 rintro az ba w next2 ⟨⟨o2, g7, d9, f6, d6, d8⟩, H, o6, m5, rfl, u, s5, I, ar⟩ hn2
 dsimp only at u I s5
 simp only [List.map_cons, List.map_nil, List.cons.injEq, and_true] at u
 obtain ⟨e6, e7⟩ := u
 simp only [e6, e7]
 obtain ⟨n2, hm2, h⟩ : ∃ n2 : (Int × Bool × ByteArray × Int × a8 × (List a6)) → Hp → Prop, (∀ s' H', n2 s' H' → t s' H' ∧ g s' < g (o2, g7, d9, f6, d6, d8)) ∧ k8 x0.fn o2 g7 d9 f6 d6 d8 H n2 K := ⟨_, fun _ _ h => h, aq (o2, g7, d9, f6, d6, d8) H (fun s' H' => t s' H' ∧ g s' < g (o2, g7, d9, f6, d6, d8)) ar (fun _ _ a b => ⟨a, b⟩)⟩
 unfold a0R
 unfold k8 at h
 simp only [o3]
 refine S6 (D := fun ad j => ∃ (f : Bool) (c : Hp) , ad = (gv g7 true (Value.bool f)) ∧ (Inv w0 ps0 H0 c [bx g0 44 [(Value.string d9), (vi f6), (vi d6.m6), (vi d6.r6), (vs o6)], m5] j) ∧ (∀ i, i < w.heap.size → ¬ inF [] i → j.heap[i]? = w.heap[i]?) ∧ Hle H c ∧ (((g7 && f) = true →
 l8 (b5.mk d9 f6 d6 (Sl.mk none 0 0)) d8 c (fun (d : b5) (k : (List a6)) (au : Hp) =>
 j9 (g5 d) k au (fun (m : Int) (o : Bool) (v : Hp) =>
 n2 (m, o, d.fs, d.fn, d.fat, k) v))) ∧
 ((g7 && f) = false →
 g9 x0.fn d9 f6 d6 d8 c K))) (fun e => ?_) (fun e => ?_) ?_
 ·replace h := h.1 e
  have ae := e
  simp only [m1 ae]
  refine f8 Tryd.call36 h I ?_
  rintro _ c _ j p af ag ⟨f, rfl, rfl, h⟩
  exact ⟨f, c, by rfl, p, ag, af, h⟩
 ·exact ⟨false, H, by rw [a0r e], I, fun _ _ _ => rfl, Hle.refl _, h.2 e⟩
 ·clear h
  rintro ad j ⟨f, c, rfl, p, ag, af, h⟩
  refine a7 (s4 _ _) ?_
  refine m0 h (fun _ h => ?_) (fun _ h => ?_)
  ·refine f8 Tryd.call56 (h g0 o6 m5 s5) ((p.bring 1).bring 1) ?_
   rintro _ _ _ bb av _ _ ⟨d, k, ah, ai, rfl, rfl, aj, h⟩
   refine f8 Tryd.call20 (h g0 ah ai aj) ((av.bring 1).bring 1) ?_
   rintro _ v _ bc aw _ _ ⟨m, o, rfl, rfl, h⟩
   refine a7 (b8 _ _ (Value.int .i32 m) rfl) ?_
   refine a7 (b8 _ _ (Value.bool o) rfl) ?_
   exact hn2 _ _ _ (hm2 _ _ h).2 ⟨(m, o, d.fs, d.fn, d.fat, k), v, ah, ai, rfl, rfl, aj, ((aw.bring 1).bring 1), (hm2 _ _ h).1⟩
  ·exact hx1 _ _ (hj1 d9 f6 d6 d8 o6 m5 c _ s5 ((p.bring 1).bring 1) h)
def z7 (a : a6) (i7 : ByteArray) (i8 : Int) (l9 : a8) (m3 : (List a6)) (b : a6) (H : Hp) (K : a6 → Int → b5 → (List a6) → Hp → Prop) : Prop :=
 K a 0 (b5.mk i7 i8 l9 (Sl.mk none 0 0)) m3 H
def K2 (x0 : b5) (i : (List a6)) (H : Hp) (K : a6 → Int → b5 → (List a6) → Hp → Prop) : Prop :=
 r9 (g5 x0) i H (fun b a c j =>
 Q8 b j (fun d e =>
 (d = true →
 z7 (a6.mk 3 b 0 (a8.mk 0 0)) a.fs a.fn a.fat c (a6.mk 0 ⟨#[]⟩ 0 (a8.mk 0 0)) e K) ∧
 (d = false →
 Q9 b e (fun f g =>
 (f = true →
 K (a6.mk 1 b 0 (a8.mk 0 0)) 22 (g5 a) c g) ∧
 (f = false →
 z7 (a6.mk 1 b 0 (a8.mk 0 0)) a.fs a.fn a.fat c (a6.mk 0 ⟨#[]⟩ 0 (a8.mk 0 0)) g K)))))
theorem Y7 (x0 : b5) (j : (List a6)) {H : Hp} {K : a6 → Int → b5 → (List a6) → Hp → Prop} (h : K2 x0 j H K) : Q0 x0 j H K := by
 intro g0 s t u
 refine Ct.of fun w0 w ps0 H0 R E I hR => a8m ?_
 unfold K2 at h
 unfold F41
 refine s8 I Tryd.zeroValue33 (cs := [(vi 0), (Value.string ⟨#[]⟩), (vi 0), (vi 0), (vi 0)]) rfl fun k ac v ad => ?_
 refine f8 Tryd.call37 (h g0 s t u) ((v.bring 2).bring 2) ?_
 rintro _ _ _ ae y _ _ ⟨a, b, d, e, f, rfl, rfl, l, h⟩
 refine a7 (C3 _ _) ?_
 refine s8 y Tryd.zeroValue33 (cs := [(vi 0), (Value.string ⟨#[]⟩), (vi 0), (vi 0), (vi 0)]) rfl fun m af z ag => ?_
 refine g8 z Tryd.sizeOf33 (vs := [(vi 1), (Value.string a), (vi 0), (vi 0), (vi 0)]) (cs' := [(vi 1), (Value.string a), (vi 0), (vi 0), (vi 0)]) rfl rfl (nb rfl) rfl rfl fun ah n ai => ?_
 have hj1 : ∀ (c : a6) (i7 : ByteArray) (i8 : Int) (l9 : a8) (H : Hp) (w : World) (_ : Inv w0 ps0 H0 H [bx m 33 (b6 c), bx g0 44 [(Value.string i7), (vi i8), (vi l9.m6), (vi l9.r6), (vs e)], bx k 33 [(vi (a6.mk 0 ⟨#[]⟩ 0 (a8.mk 0 0)).P4), (Value.string (a6.mk 0 ⟨#[]⟩ 0 (a8.mk 0 0)).G5), (vi (a6.mk 0 ⟨#[]⟩ 0 (a8.mk 0 0)).O7), (vi (a6.mk 0 ⟨#[]⟩ 0 (a8.mk 0 0)).fAt.m6), (vi (a6.mk 0 ⟨#[]⟩ 0 (a8.mk 0 0)).fAt.r6)], f] w) (_ : z7 c i7 i8 l9 d (a6.mk 0 ⟨#[]⟩ 0 (a8.mk 0 0)) H K), a3u (Value.pointer (some ⟨k, 0, none⟩)) (Value.pointer (some ⟨m, 0, none⟩)) w R E := by
  intro c i7 i8 l9 H w I h
  unfold a3u
  intro _
  unfold z7 at h
  refine o0 (lW Tryd.isAgg33 Tryd.sizeOf33 rfl I) ?_
  refine g8 (I.bring 2) Tryd.sizeOf33 (vs := (b6 c)) (cs' := (b6 c)) rfl rfl (nb rfl) rfl rfl fun aj p ak => ?_
  refine o5 Tryd.isAgg33 Tryd.sizeOf33 rfl (p.at1 (o := 0) (vs := (b6 c)) (nb rfl) rfl) ?_
  exact hR _ H _ _ ((p.drop.drop.bring 1).bring 1) ⟨c, 0, (b5.mk i7 i8 l9 (Sl.mk none 0 0)), d, e, f, rfl, rfl, l, h⟩
 refine r5 fun j1 hx1 => ?_
 refine a7 Q5 ?_
 refine o0 (l1 Tryd.isAgg9 n rfl) ?_
 refine f8 Tryd.call13 h n ?_
 rintro _ aa _ al g _ _ ⟨am, rfl, rfl, h⟩
 refine m0 h (fun _ h => ?_) (fun _ h => ?_)
 ·refine a7 a4L ?_
  refine g8 g Tryd.sizeOf3 (vs := [(vi 3)]) (cs' := [(vi 3), (Value.string a), (vi 0), (vi 0), (vi 0)]) rfl rfl (nb rfl) rfl rfl fun an ab ao => ?_
  exact hx1 _ _ (hj1 (a6.mk 3 a 0 (a8.mk 0 0)) b.fs b.fn b.fat aa _ ((((ab.bring 2).bring 3).bring 3).bring 3) h)
 ·refine a7 Q5 ?_
  refine o0 (l1 Tryd.isAgg9 g rfl) ?_
  refine f8 Tryd.call28 h g ?_
  rintro _ q _ ap i _ _ ⟨aq, rfl, rfl, h⟩
  refine m0 h (fun _ h => ?_) (fun _ h => ?_)
  ·refine o0 (ldA Tryd.isAgg33 Tryd.sizeOf33 rfl (i.at1 (o := 0) (vs := [(vi 1), (Value.string a), (vi 0), (vi 0), (vi 0)]) (nb rfl) rfl)) ?_
   refine g8 (i.bring 3) Tryd.sizeOf33 (vs := [(vi 1), (Value.string a), (vi 0), (vi 0), (vi 0)]) (cs' := [(vi 1), (Value.string a), (vi 0), (vi 0), (vi 0)]) rfl rfl (nb rfl) rfl rfl fun ar r au => ?_
   refine o5 Tryd.isAgg33 Tryd.sizeOf33 rfl (r.at1 (o := 0) (vs := [(vi 1), (Value.string a), (vi 0), (vi 0), (vi 0)]) (nb rfl) rfl) ?_
   exact hR _ q _ _ ((r.drop.drop.bring 1).bring 1) ⟨(a6.mk 1 a 0 (a8.mk 0 0)), 22, (g5 b), d, e, f, rfl, rfl, l, h⟩
  ·exact hx1 _ _ (hj1 (a6.mk 1 a 0 (a8.mk 0 0)) b.fs b.fn b.fat q _ ((((i.bring 2).bring 3).bring 3).bring 3) h)
end Go.Proofs.YthklmeihgmcljaaDoor
