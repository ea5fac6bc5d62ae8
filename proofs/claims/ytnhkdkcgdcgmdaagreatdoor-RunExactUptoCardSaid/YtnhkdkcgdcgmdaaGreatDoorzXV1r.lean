/- Typed formulas of the program's functions that few laws need; printed by lift.py off the code. -/
import Derived.Test.YtnhkdkcgdcgmdaaGreatDoorzXV1
import Derived.Test.YtnhkdkcgdcgmdaaGreatDoorzXG1r
namespace Go.Proofs.YtnhkdkcgdcgmdaaGreatDoor
open Go.RowKit
set_option maxRecDepth 100000
set_option maxHeartbeats 2000000
def a8k (x0 : Int) (x1 : Int) (H : Hp) (K : Int → Int → Hp → Prop) : Prop :=
 ((((decide (x0 < 0)) != (decide (x1 < 0))) && ((decide ((IntKind.wrap .i64 (x0 - x1)) < 0)) != (decide (x0 < 0)))) = true →
 K 0 1 H) ∧
 ((((decide (x0 < 0)) != (decide (x1 < 0))) && ((decide ((IntKind.wrap .i64 (x0 - x1)) < 0)) != (decide (x0 < 0)))) = false →
 K (IntKind.wrap .i64 (x0 - x1)) 0 H)
theorem b5J (x0 x1) {H K} (h : a8k x0 x1 H K) : a7Y x0 x1 H K := by
 refine Ct.of fun w0 w ps0 H0 R E I hR => c9q ?_
 unfold a8k at h
 unfold d2o
 refine a8 pSu (a8 pLs (a8 pLs (a8 (b0W _ _ _ _) ?_)))
 simp only [t8]
 refine a8 (Pu.g fun a => by simp only [g7 a]; exact pLs) ?_
 refine a8 (Pu.g fun a => by simp only [g7 a]; exact pLs) ?_
 refine a8 (Pu.g fun a => by simp only [g7 a]; exact (b0W _ _ _ _)) ?_
 refine a8 (v7 _ _) ?_
 refine m5 h (fun _ h => ?_) (fun _ h => ?_)
 ·exact hR _ H _ _ I ⟨0, 1, rfl, rfl, h⟩
 ·exact hR _ H _ _ I ⟨(IntKind.wrap .i64 (x0 - x1)), 0, rfl, rfl, h⟩
def a8l (x0 : Int) (H : Hp) (K : Int → Int → Hp → Prop) : Prop :=
 a7Y 0 x0 H (fun a b c =>
 K a b c)
theorem b5K (x0) {H K} (h : a8l x0 H K) : b0X x0 H K := by
 refine Ct.of fun w0 w ps0 H0 R E I hR => c9o ?_
 unfold a8l at h
 unfold d2m
 refine i6 Tryz.call114 h I ?_
 rintro _ c _ e d _ _ ⟨a, b, rfl, rfl, h⟩
 refine a8 (m8 _ _ (vi a) rfl) (a8 (m8 _ _ (vi b) rfl) ?_)
 exact hR _ c _ _ d ⟨a, b, rfl, rfl, h⟩
def a8m (x0 : Int) (x1 : Int) (H : Hp) (K : Int → Int → Hp → Prop) : Prop :=
 ((((decide (x0 < 0)) == (decide (x1 < 0))) && ((decide ((IntKind.wrap .i64 (x0 + x1)) < 0)) != (decide (x0 < 0)))) = true →
 K 0 1 H) ∧
 ((((decide (x0 < 0)) == (decide (x1 < 0))) && ((decide ((IntKind.wrap .i64 (x0 + x1)) < 0)) != (decide (x0 < 0)))) = false →
 K (IntKind.wrap .i64 (x0 + x1)) 0 H)
theorem b5L (x0 x1) {H K} (h : a8m x0 x1 H K) : b0Y x0 x1 H K := by
 refine Ct.of fun w0 w ps0 H0 R E I hR => c9p ?_
 unfold a8m at h
 unfold d2n
 refine a8 pAd (a8 pLs (a8 pLs (a8 (c6r _ _ _ _) ?_)))
 simp only [t8]
 refine a8 (Pu.g fun a => by simp only [g7 a]; exact pLs) ?_
 refine a8 (Pu.g fun a => by simp only [g7 a]; exact pLs) ?_
 refine a8 (Pu.g fun a => by simp only [g7 a]; exact (b0W _ _ _ _)) ?_
 refine a8 (v7 _ _) ?_
 refine m5 h (fun _ h => ?_) (fun _ h => ?_)
 ·exact hR _ H _ _ I ⟨0, 1, rfl, rfl, h⟩
 ·exact hR _ H _ _ I ⟨(IntKind.wrap .i64 (x0 + x1)), 0, rfl, rfl, h⟩
def a7K (x0 : Int) (H : Hp) (K : Int → Hp → Prop) : Prop :=
 (x0 < 0 →
 K (IntKind.wrap .u64 (0 - (IntKind.wrap .u64 x0))) H) ∧
 (¬ (x0 < 0) →
 K (IntKind.wrap .u64 x0) H)
theorem b5o (x0) {H K} (h : a7K x0 H K) : a5G x0 H K := by
 refine Ct.of fun w0 w ps0 H0 R E I hR => c9C ?_
 unfold a7K at h
 unfold d2A
 refine a8 pLs ?_
 refine f6 h (fun _ h => ?_) (fun _ h => ?_)
 ·refine a8 (b5u _ _) (a8 (b6j _ _) ?_)
  exact hR _ H _ _ I ⟨(IntKind.wrap .u64 (0 - (IntKind.wrap .u64 x0))), rfl, rfl, h⟩
 ·refine a8 (b5u _ _) ?_
  exact hR _ H _ _ I ⟨(IntKind.wrap .u64 x0), rfl, rfl, h⟩
def a7L (x0 : Int) (x1 : Int) (H : Hp) (K : Int → Int → Hp → Prop) : Prop :=
 K (IntKind.wrap .u64 ((IntKind.wrap .u64 ((IntKind.wrap .u64 ((Int.fdiv x0 (2 ^ 32)) * (Int.fdiv x1 (2 ^ 32)))) + (Int.fdiv (IntKind.wrap .u64 ((IntKind.wrap .u64 ((Int.fdiv x0 (2 ^ 32)) * (bandI .u64 x1 4294967295))) + (Int.fdiv (IntKind.wrap .u64 ((bandI .u64 x0 4294967295) * (bandI .u64 x1 4294967295))) (2 ^ 32)))) (2 ^ 32)))) + (Int.fdiv (IntKind.wrap .u64 ((bandI .u64 (IntKind.wrap .u64 ((IntKind.wrap .u64 ((Int.fdiv x0 (2 ^ 32)) * (bandI .u64 x1 4294967295))) + (Int.fdiv (IntKind.wrap .u64 ((bandI .u64 x0 4294967295) * (bandI .u64 x1 4294967295))) (2 ^ 32)))) 4294967295) + (IntKind.wrap .u64 ((bandI .u64 x0 4294967295) * (Int.fdiv x1 (2 ^ 32)))))) (2 ^ 32)))) (IntKind.wrap .u64 (x0 * x1)) H
theorem b5p (x0 x1) {H K} (h : a7L x0 x1 H K) : a7B x0 x1 H K := by
 refine Ct.of fun w0 w ps0 H0 R E I hR => c9B ?_
 unfold a7L at h
 unfold d2z
 refine a8 (b7a _ _ _ _ _ _) ?_
 refine a8 (b4h _ _ _ _ _ _ _ (by decide) (by decide)) ?_
 refine a8 (b7a _ _ _ _ _ _) ?_
 refine a8 (b4h _ _ _ _ _ _ _ (by decide) (by decide)) ?_
 refine a8 pMu (a8 pMu ?_)
 refine a8 (b4h _ _ _ _ _ _ _ (by decide) (by decide)) ?_
 refine a8 pAd (a8 (b7a _ _ _ _ _ _) ?_)
 refine a8 (b4h _ _ _ _ _ _ _ (by decide) (by decide)) ?_
 refine a8 pMu (a8 pAd (a8 pMu (a8 pAd ?_)))
 refine a8 (b4h _ _ _ _ _ _ _ (by decide) (by decide)) ?_
 refine a8 pAd (a8 pMu ?_)
 exact hR _ H _ _ I ⟨(IntKind.wrap .u64 ((IntKind.wrap .u64 ((IntKind.wrap .u64 ((Int.fdiv x0 (2 ^ 32)) * (Int.fdiv x1 (2 ^ 32)))) + (Int.fdiv (IntKind.wrap .u64 ((IntKind.wrap .u64 ((Int.fdiv x0 (2 ^ 32)) * (bandI .u64 x1 4294967295))) + (Int.fdiv (IntKind.wrap .u64 ((bandI .u64 x0 4294967295) * (bandI .u64 x1 4294967295))) (2 ^ 32)))) (2 ^ 32)))) + (Int.fdiv (IntKind.wrap .u64 ((bandI .u64 (IntKind.wrap .u64 ((IntKind.wrap .u64 ((Int.fdiv x0 (2 ^ 32)) * (bandI .u64 x1 4294967295))) + (Int.fdiv (IntKind.wrap .u64 ((bandI .u64 x0 4294967295) * (bandI .u64 x1 4294967295))) (2 ^ 32)))) 4294967295) + (IntKind.wrap .u64 ((bandI .u64 x0 4294967295) * (Int.fdiv x1 (2 ^ 32)))))) (2 ^ 32)))), (IntKind.wrap .u64 (x0 * x1)), rfl, rfl, h⟩
def a1I (b7D : Int) (c6H : Int) (b4u : Int) (b3H : Int) (a7J : Int) (H : Hp) (K : Int → Int → Hp → Prop) : Prop :=
 (((!decide (b4u = 0)) || (decide (a7J < b3H))) = true →
 K 0 1 H) ∧
 (((!decide (b4u = 0)) || (decide (a7J < b3H))) = false →
 K (IntKind.wrap .i64 (b7D * c6H)) 0 H)
def a8n (x0 : Int) (x1 : Int) (H : Hp) (K : Int → Int → Hp → Prop) : Prop :=
 a5G x0 H (fun d e =>
 a5G x1 e (fun f g =>
 a7B d f g (fun a b c =>
 (((decide (x0 < 0)) != (decide (x1 < 0))) = true →
 a1I x0 x1 a b (IntKind.wrap .u64 (9223372036854775807 + 1)) c K) ∧
 (((decide (x0 < 0)) != (decide (x1 < 0))) = false →
 a1I x0 x1 a b 9223372036854775807 c K))))
theorem b5M (x0 x1) {H K} (h : a8n x0 x1 H K) : b0Z x0 x1 H K := by
 refine Ct.of fun w0 w ps0 H0 R E I hR => c9r ?_
 unfold a8n at h
 unfold d2p
 refine i6 Tryz.call147 h I ?_
 rintro _ _ _ j f _ _ ⟨k, rfl, rfl, h⟩
 refine i6 Tryz.call147 h f ?_
 rintro _ _ _ l i _ _ ⟨m, rfl, rfl, h⟩
 refine i6 Tryz.call146 h i ?_
 rintro _ d _ n e _ _ ⟨b, c, rfl, rfl, h⟩
 refine a8 (m8 _ _ (Value.int .u64 b) rfl) (a8 (m8 _ _ (Value.int .u64 c) rfl) ?_)
 have hj1 : ∀ (a7J : Int) H w (_ : Inv w0 ps0 H0 H [] w) (_ : a1I x0 x1 b c a7J H K), b7P (vi x0) (vi x1) (Value.int .u64 b) (Value.int .u64 c) (Value.int .u64 a7J) w R E := by
  intro a7J H w I h
  unfold b7P
  intro _
  unfold a1I at h
  refine a8 pNe ?_
  simp only [t8]
  refine a8 (Pu.g fun a => by simp only [g7 a]; exact pGt) ?_
  refine a8 (E8 _ _) ?_
  refine m5 h (fun _ h => ?_) (fun _ h => ?_)
  ·exact hR _ H _ _ I ⟨0, 1, rfl, rfl, h⟩
  ·refine a8 pMu ?_
   exact hR _ H _ _ I ⟨(IntKind.wrap .i64 (x0 * x1)), 0, rfl, rfl, h⟩
 refine r5 fun j1 hx1 => ?_
 refine a8 pLs (a8 pLs (a8 (b0W _ _ _ _) ?_))
 refine m5 h (fun _ h => ?_) (fun _ h => ?_)
 ·refine a8 pAd ?_
  exact hx1 _ _ (hj1 (IntKind.wrap .u64 (9223372036854775807 + 1)) d _ e h)
 ·exact hx1 _ _ (hj1 9223372036854775807 d _ e h)
def a6n (x0 : Int) (x1 : Int) (H : Hp) (K : Int → Hp → Prop) : Prop :=
 (x1 = 0 →
 K 2 H) ∧
 (¬ (x1 = 0) →
 (((decide (x0 = (-9223372036854775808))) && (decide (x1 = (-1)))) = true →
 K 1 H) ∧
 (((decide (x0 = (-9223372036854775808))) && (decide (x1 = (-1)))) = false →
 K 0 H))
theorem b3I (x0 x1) {H K} (h : a6n x0 x1 H K) : a3Z x0 x1 H K := by
 refine Ct.of fun w0 w ps0 H0 R E I hR => c9D ?_
 unfold a6n at h
 unfold d2B
 refine a8 pEq ?_
 refine f6 h (fun _ h => ?_) (fun _ h => ?_)
 ·exact hR _ H _ _ I ⟨2, rfl, rfl, h⟩
 ·refine a8 pEq ?_
  simp only [t8]
  refine a8 (Pu.g fun a => by simp only [g7 a]; exact pEq) ?_
  refine a8 (v7 _ _) ?_
  refine m5 h (fun _ h => ?_) (fun _ h => ?_)
  ·exact hR _ H _ _ I ⟨1, rfl, rfl, h⟩
  ·exact hR _ H _ _ I ⟨0, rfl, rfl, h⟩
def b1m (x0 : Int) (x1 : Int) (H : Hp) (K : Int → Int → Hp → Prop) : Prop :=
 a3Z x0 x1 H (fun a b =>
 (¬ (a = 0) →
 K 0 a b) ∧
 (a = 0 →
 (x1 : Int) ≠ 0 ∧
 K (IntKind.wrap .i64 (Int.tdiv x0 x1)) 0 b))
theorem b5N (x0 x1) {H K} (h : b1m x0 x1 H K) : b1a x0 x1 H K := by
 refine Ct.of fun w0 w ps0 H0 R E I hR => c9s ?_
 unfold b1m at h
 unfold d2q
 refine i6 Tryz.call148 h I ?_
 rintro _ a _ e b _ _ ⟨c, rfl, rfl, h⟩
 refine a8 pNe ?_
 refine a1v h (fun _ h => ?_) (fun _ h => ?_)
 ·exact hR _ a _ _ b ⟨0, c, rfl, rfl, h⟩
 ·obtain ⟨d, h⟩ := h
  refine a8 (b6l _ _ _ _ _ _ d) ?_
  exact hR _ a _ _ b ⟨(IntKind.wrap .i64 (Int.tdiv x0 x1)), 0, rfl, rfl, h⟩
def b1n (x0 : Int) (x1 : Int) (H : Hp) (K : Int → Int → Hp → Prop) : Prop :=
 a3Z x0 x1 H (fun a b =>
 (¬ (a = 0) →
 K 0 a b) ∧
 (a = 0 →
 (x1 : Int) ≠ 0 ∧
 K (Int.tmod x0 x1) 0 b))
theorem b5O (x0 x1) {H K} (h : b1n x0 x1 H K) : b1b x0 x1 H K := by
 refine Ct.of fun w0 w ps0 H0 R E I hR => c9t ?_
 unfold b1n at h
 unfold d2r
 refine i6 Tryz.call148 h I ?_
 rintro _ a _ e b _ _ ⟨c, rfl, rfl, h⟩
 refine a8 pNe ?_
 refine a1v h (fun _ h => ?_) (fun _ h => ?_)
 ·exact hR _ a _ _ b ⟨0, c, rfl, rfl, h⟩
 ·obtain ⟨d, h⟩ := h
  refine a8 (d0O _ _ _ _ _ _ d) ?_
  exact hR _ a _ _ b ⟨(Int.tmod x0 x1), 0, rfl, rfl, h⟩
def a5R (H : Hp) (K : Hp → Prop) : Prop :=
 K H
theorem b2Q {H K} (h : a5R H K) : a5N H K := by
 refine Ct.of fun w0 w ps0 H0 R E I hR => c9u ?_
 unfold a5R at h
 unfold d2s
 refine B9 I Tryz.zeroValue177 (cs := [Value.nilFunc, Value.nilFunc, Value.nilFunc, Value.nilFunc, Value.nilFunc, Value.nilFunc, Value.nilFunc]) rfl fun c d b e => ?_
 refine a8 a6D ?_
 refine o4 b Tryz.sizeOf177 (vs := [(fC 149), (fC 150), (fC 151), (fC 152), (fC 153), (fC 154), (fC 155)]) (cs' := [(fC 149), (fC 150), (fC 151), (fC 152), (fC 153), (fC 154), (fC 155)]) rfl rfl (nb rfl) rfl rfl fun f a g => ?_
 refine a6X Tryz.isAgg177 Tryz.sizeOf177 rfl (a.at1 (o := 0) (vs := [(fC 149), (fC 150), (fC 151), (fC 152), (fC 153), (fC 154), (fC 155)]) (nb rfl) rfl) ?_
 exact hR _ H _ _ a.drop ⟨rfl, rfl, h⟩
def a5f (x0 : Int) (x1 : Int) (H : Hp) (K : Bool → Hp → Prop) : Prop :=
 K (decide (x0 < x1)) H
theorem b1K (x0 x1) {H K} (h : a5f x0 x1 H K) : a7r x0 x1 H K := by
 refine Ct.of fun w0 w ps0 H0 R E I hR => c9E ?_
 unfold a5f at h
 unfold d2C
 refine a8 pLs ?_
 exact hR _ H _ _ I ⟨(decide (x0 < x1)), rfl, rfl, h⟩
def a5g (x0 : Int) (x1 : Int) (H : Hp) (K : Bool → Hp → Prop) : Prop :=
 K (decide (x0 ≤ x1)) H
theorem b1L (x0 x1) {H K} (h : a5g x0 x1 H K) : a7s x0 x1 H K := by
 refine Ct.of fun w0 w ps0 H0 R E I hR => c9F ?_
 unfold a5g at h
 unfold d2D
 refine a8 pLe ?_
 exact hR _ H _ _ I ⟨(decide (x0 ≤ x1)), rfl, rfl, h⟩
def a5h (x0 : Int) (x1 : Int) (H : Hp) (K : Bool → Hp → Prop) : Prop :=
 K (decide (x0 = x1)) H
theorem b1M (x0 x1) {H K} (h : a5h x0 x1 H K) : a7t x0 x1 H K := by
 refine Ct.of fun w0 w ps0 H0 R E I hR => c9G ?_
 unfold a5h at h
 unfold d2E
 refine a8 pEq ?_
 exact hR _ H _ _ I ⟨(decide (x0 = x1)), rfl, rfl, h⟩
def a5i (x0 : Int) (x1 : Int) (H : Hp) (K : Bool → Hp → Prop) : Prop :=
 K (!decide (x0 = x1)) H
theorem b1N (x0 x1) {H K} (h : a5i x0 x1 H K) : a7u x0 x1 H K := by
 refine Ct.of fun w0 w ps0 H0 R E I hR => c9H ?_
 unfold a5i at h
 unfold d2F
 refine a8 pNe ?_
 exact hR _ H _ _ I ⟨(!decide (x0 = x1)), rfl, rfl, h⟩
def a5j (x0 : Int) (x1 : Int) (H : Hp) (K : Bool → Hp → Prop) : Prop :=
 K (decide (x1 < x0)) H
theorem b1O (x0 x1) {H K} (h : a5j x0 x1 H K) : a7v x0 x1 H K := by
 refine Ct.of fun w0 w ps0 H0 R E I hR => c9I ?_
 unfold a5j at h
 unfold d2G
 refine a8 pGt ?_
 exact hR _ H _ _ I ⟨(decide (x1 < x0)), rfl, rfl, h⟩
def a5k (x0 : Int) (x1 : Int) (H : Hp) (K : Bool → Hp → Prop) : Prop :=
 K (decide (x1 ≤ x0)) H
theorem b1P (x0 x1) {H K} (h : a5k x0 x1 H K) : a7w x0 x1 H K := by
 refine Ct.of fun w0 w ps0 H0 R E I hR => c9J ?_
 unfold a5k at h
 unfold d2H
 refine a8 pGe ?_
 exact hR _ H _ _ I ⟨(decide (x1 ≤ x0)), rfl, rfl, h⟩
def a8o (x0 : Int) (x1 : Int) (x2 : Int) (H : Hp) (K : Bool → Hp → Prop) : Prop :=
 (((decide (x0 < 1)) || (decide (6 < x0))) = true →
 K false H) ∧
 (((decide (x0 < 1)) || (decide (6 < x0))) = false →
 a5N H (fun b =>
 (0 : Int) ≤ x0 ∧ (x0 : Int) < 7 ∧
 ∃ a : Bool → Hp → Prop, (∀ (c : Bool) (d : Hp), a c d →
 K c d) ∧ ((x0 : Int) = 0 → b4n x1 x2 b a) ∧ ((x0 : Int) = 1 → a7r x1 x2 b a) ∧ ((x0 : Int) = 2 → a7s x1 x2 b a) ∧ ((x0 : Int) = 3 → a7t x1 x2 b a) ∧ ((x0 : Int) = 4 → a7u x1 x2 b a) ∧ ((x0 : Int) = 5 → a7v x1 x2 b a) ∧ ((x0 : Int) = 6 → a7w x1 x2 b a)))
theorem b5P (x0 x1 x2) {H K} (h : a8o x0 x1 x2 H K) : b1c x0 x1 x2 H K := by
 refine Ct.of fun w0 w ps0 H0 R E I hR => d2j ?_
 unfold a8o at h
 unfold F73
 refine a8 pLs ?_
 simp only [t8]
 refine a8 (Pu.g fun l => by simp only [g7 l]; exact pGt) ?_
 refine a8 (E8 _ _) ?_
 refine m5 h (fun _ h => ?_) (fun _ h => ?_)
 ·exact hR _ H _ _ I ⟨false, rfl, rfl, h⟩
 ·refine i6 Tryz.call118 h I ?_
  rintro _ o _ m k _ _ ⟨rfl, rfl, h⟩
  obtain ⟨p, q, h⟩ := h
  refine a8 (a0M _ _ p q) ?_
  obtain ⟨r, s, t, u, v, y, z, aa, ab⟩ := h
  refine c8e (D := fun n j => ∃ (b : Bool) (a : Hp), n = (vB b) ∧ (Inv w0 ps0 H0 a [] j) ∧ (∀ i, i < m.heap.size → ¬ inF [] i → j.heap[i]? = m.heap[i]?) ∧ Hle o a ∧ (r b a)) ?_ ?_
  ·obtain e | e | e | e | e | e | e := (by omega : (x0 : Int) = 0 ∨ (x0 : Int) = 1 ∨ (x0 : Int) = 2 ∨ (x0 : Int) = 3 ∨ (x0 : Int) = 4 ∨ (x0 : Int) = 5 ∨ (x0 : Int) = 6)
   ·replace h := t e
    refine b0f (s' := xCall (fC 149) [(vi x1), (vi x2)]) (by rw [e]; rfl) ?_
    refine i6 Tryz.call149 h k ?_
    rintro _ a _ j c d f ⟨b, rfl, rfl, h⟩
    exact ⟨b, a, rfl, c, f, d, h⟩
   ·replace h := u e
    refine b0f (s' := xCall (fC 150) [(vi x1), (vi x2)]) (by rw [e]; rfl) ?_
    refine i6 Tryz.call150 h k ?_
    rintro _ a _ j c d f ⟨b, rfl, rfl, h⟩
    exact ⟨b, a, rfl, c, f, d, h⟩
   ·replace h := v e
    refine b0f (s' := xCall (fC 151) [(vi x1), (vi x2)]) (by rw [e]; rfl) ?_
    refine i6 Tryz.call151 h k ?_
    rintro _ a _ j c d f ⟨b, rfl, rfl, h⟩
    exact ⟨b, a, rfl, c, f, d, h⟩
   ·replace h := y e
    refine b0f (s' := xCall (fC 152) [(vi x1), (vi x2)]) (by rw [e]; rfl) ?_
    refine i6 Tryz.call152 h k ?_
    rintro _ a _ j c d f ⟨b, rfl, rfl, h⟩
    exact ⟨b, a, rfl, c, f, d, h⟩
   ·replace h := z e
    refine b0f (s' := xCall (fC 153) [(vi x1), (vi x2)]) (by rw [e]; rfl) ?_
    refine i6 Tryz.call153 h k ?_
    rintro _ a _ j c d f ⟨b, rfl, rfl, h⟩
    exact ⟨b, a, rfl, c, f, d, h⟩
   ·replace h := aa e
    refine b0f (s' := xCall (fC 154) [(vi x1), (vi x2)]) (by rw [e]; rfl) ?_
    refine i6 Tryz.call154 h k ?_
    rintro _ a _ j c d f ⟨b, rfl, rfl, h⟩
    exact ⟨b, a, rfl, c, f, d, h⟩
   ·replace h := ab e
    refine b0f (s' := xCall (fC 155) [(vi x1), (vi x2)]) (by rw [e]; rfl) ?_
    refine i6 Tryz.call155 h k ?_
    rintro _ a _ j c d f ⟨b, rfl, rfl, h⟩
    exact ⟨b, a, rfl, c, f, d, h⟩
  ·rintro n j ⟨b, a, rfl, c, f, d, h⟩
   replace h := s _ _ h
   exact hR _ a _ _ c ⟨b, rfl, rfl, h⟩
def a5l (x0 : Int) (H : Hp) (K : Int → Int → Hp → Prop) : Prop :=
 (x0 = (-9223372036854775808) →
 K 0 1 H) ∧
 (¬ (x0 = (-9223372036854775808)) →
 K (IntKind.wrap .i64 (0 - x0)) 0 H)
theorem b1Q (x0) {H K} (h : a5l x0 H K) : a1u x0 H K := by
 refine Ct.of fun w0 w ps0 H0 R E I hR => c9v ?_
 unfold a5l at h
 unfold d2t
 refine a8 pEq ?_
 refine f6 h (fun _ h => ?_) (fun _ h => ?_)
 ·exact hR _ H _ _ I ⟨0, 1, rfl, rfl, h⟩
 ·refine a8 (b6j _ _) ?_
  exact hR _ H _ _ I ⟨(IntKind.wrap .i64 (0 - x0)), 0, rfl, rfl, h⟩
def a5m (x0 : Int) (x1 : Int) (H : Hp) (K : Int → Int → Hp → Prop) : Prop :=
 ((((decide (0 < x1)) && (decide ((IntKind.wrap .i64 (9223372036854775807 - x1)) < x0))) || ((decide (x1 < 0)) && (decide (x0 < (IntKind.wrap .i64 ((-9223372036854775808) - x1)))))) = true →
 K 0 1 H) ∧
 ((((decide (0 < x1)) && (decide ((IntKind.wrap .i64 (9223372036854775807 - x1)) < x0))) || ((decide (x1 < 0)) && (decide (x0 < (IntKind.wrap .i64 ((-9223372036854775808) - x1)))))) = false →
 K (IntKind.wrap .i64 (x0 + x1)) 0 H)
theorem b1R (x0 x1) {H K} (h : a5m x0 x1 H K) : a4P x0 x1 H K := by
 refine Ct.of fun w0 w ps0 H0 R E I hR => c9w ?_
 unfold a5m at h
 unfold d2u
 refine a8 pGt ?_
 simp only [t8]
 refine a8 (Pu.g fun a => by simp only [g7 a]; exact pSu) ?_
 refine a8 (Pu.g fun a => by simp only [g7 a]; exact pGt) ?_
 refine a8 (v7 _ _) ?_
 simp only [t8]
 refine a8 (Pu.g fun a => by simp only [g7 a]; exact pLs) ?_
 simp only [a5t, a8I]
 refine a8 (Pu.e (a0f _ _ _) (Pu.g fun hb => by obtain ⟨a, b⟩ := a2T hb; simp only [g7 hb]; exact pSu)) ?_
 refine a8 (Pu.e (a0f _ _ _) (Pu.g fun hb => by obtain ⟨a, b⟩ := a2T hb; simp only [g7 hb]; exact pLs)) ?_
 refine a8 (Pu.g fun a => by simp only [g7 a, a7O a]; exact (v7 _ _)) ?_
 refine a8 (E8 _ _) ?_
 refine m5 h (fun _ h => ?_) (fun _ h => ?_)
 ·exact hR _ H _ _ I ⟨0, 1, rfl, rfl, h⟩
 ·refine a8 pAd ?_
  exact hR _ H _ _ I ⟨(IntKind.wrap .i64 (x0 + x1)), 0, rfl, rfl, h⟩
def a5o (x0 : Int) (x1 : Int) (H : Hp) (K : Int → Int → Hp → Prop) : Prop :=
 ((((decide (x1 < 0)) && (decide ((IntKind.wrap .i64 (9223372036854775807 + x1)) < x0))) || ((decide (0 < x1)) && (decide (x0 < (IntKind.wrap .i64 ((-9223372036854775808) + x1)))))) = true →
 K 0 1 H) ∧
 ((((decide (x1 < 0)) && (decide ((IntKind.wrap .i64 (9223372036854775807 + x1)) < x0))) || ((decide (0 < x1)) && (decide (x0 < (IntKind.wrap .i64 ((-9223372036854775808) + x1)))))) = false →
 K (IntKind.wrap .i64 (x0 - x1)) 0 H)
theorem b1S (x0 x1) {H K} (h : a5o x0 x1 H K) : a4Q x0 x1 H K := by
 refine Ct.of fun w0 w ps0 H0 R E I hR => c9x ?_
 unfold a5o at h
 unfold d2v
 refine a8 pLs ?_
 simp only [t8]
 refine a8 (Pu.g fun a => by simp only [g7 a]; exact pAd) ?_
 refine a8 (Pu.g fun a => by simp only [g7 a]; exact pGt) ?_
 refine a8 (v7 _ _) ?_
 simp only [t8]
 refine a8 (Pu.g fun a => by simp only [g7 a]; exact pGt) ?_
 simp only [a5t, a8I]
 refine a8 (Pu.e (a0f _ _ _) (Pu.g fun hb => by obtain ⟨a, b⟩ := a2T hb; simp only [g7 hb]; exact pAd)) ?_
 refine a8 (Pu.e (a0f _ _ _) (Pu.g fun hb => by obtain ⟨a, b⟩ := a2T hb; simp only [g7 hb]; exact pLs)) ?_
 refine a8 (Pu.g fun a => by simp only [g7 a, a7O a]; exact (v7 _ _)) ?_
 refine a8 (E8 _ _) ?_
 refine m5 h (fun _ h => ?_) (fun _ h => ?_)
 ·exact hR _ H _ _ I ⟨0, 1, rfl, rfl, h⟩
 ·refine a8 pSu ?_
  exact hR _ H _ _ I ⟨(IntKind.wrap .i64 (x0 - x1)), 0, rfl, rfl, h⟩
def a5p (x0 : Int) (x1 : Int) (H : Hp) (K : Int → Int → Hp → Prop) : Prop :=
 (((decide (x0 = 0)) || (decide (x1 = 0))) = true →
 K 0 0 H) ∧
 (((decide (x0 = 0)) || (decide (x1 = 0))) = false →
 (x0 = (-1) →
 a1u x1 H (fun a b c =>
 K a b c)) ∧
 (¬ (x0 = (-1)) →
 (x1 = (-1) →
 a1u x0 H (fun d e f =>
 K d e f)) ∧
 (¬ (x1 = (-1)) →
 (x1 : Int) ≠ 0 ∧
 (¬ ((IntKind.wrap .i64 (Int.tdiv (IntKind.wrap .i64 (x0 * x1)) x1)) = x0) →
 K 0 1 H) ∧
 ((IntKind.wrap .i64 (Int.tdiv (IntKind.wrap .i64 (x0 * x1)) x1)) = x0 →
 K (IntKind.wrap .i64 (x0 * x1)) 0 H))))
theorem b1T (x0 x1) {H K} (h : a5p x0 x1 H K) : a4R x0 x1 H K := by
 refine Ct.of fun w0 w ps0 H0 R E I hR => c9y ?_
 unfold a5p at h
 unfold d2w
 refine a8 pEq ?_
 simp only [t8]
 refine a8 (Pu.g fun a => by simp only [g7 a]; exact pEq) ?_
 refine a8 (E8 _ _) ?_
 refine m5 h (fun _ h => ?_) (fun _ h => ?_)
 ·exact hR _ H _ _ I ⟨0, 0, rfl, rfl, h⟩
 ·refine a8 pEq ?_
  refine f6 h (fun _ h => ?_) (fun _ h => ?_)
  ·refine i6 Tryz.call125 h I ?_
   rintro _ f _ m i _ _ ⟨b, c, rfl, rfl, h⟩
   refine a8 (m8 _ _ (vi b) rfl) (a8 (m8 _ _ (vi c) rfl) ?_)
   exact hR _ f _ _ i ⟨b, c, rfl, rfl, h⟩
  ·refine a8 pEq ?_
   refine f6 h (fun _ h => ?_) (fun _ h => ?_)
   ·refine i6 Tryz.call125 h I ?_
    rintro _ j _ n k _ _ ⟨d, e, rfl, rfl, h⟩
    refine a8 (m8 _ _ (vi d) rfl) (a8 (m8 _ _ (vi e) rfl) ?_)
    exact hR _ j _ _ k ⟨d, e, rfl, rfl, h⟩
   ·refine a8 pMu ?_
    obtain ⟨l, h⟩ := h
    refine a8 (b6l _ _ _ _ _ _ l) (a8 pNe ?_)
    refine a1v h (fun _ h => ?_) (fun _ h => ?_)
    ·exact hR _ H _ _ I ⟨0, 1, rfl, rfl, h⟩
    ·exact hR _ H _ _ I ⟨(IntKind.wrap .i64 (x0 * x1)), 0, rfl, rfl, h⟩
def a3y (x0 : Int) (x1 : Int) (H : Hp) (K : Int → Hp → Prop) : Prop :=
 (x1 = 0 →
 K 2 H) ∧
 (¬ (x1 = 0) →
 (((decide (x0 = (-9223372036854775808))) && (decide (x1 = (-1)))) = true →
 K 1 H) ∧
 (((decide (x0 = (-9223372036854775808))) && (decide (x1 = (-1)))) = false →
 K 0 H))
theorem a9R (x0 x1) {H K} (h : a3y x0 x1 H K) : a1z x0 x1 H K := by
 refine Ct.of fun w0 w ps0 H0 R E I hR => c9K ?_
 unfold a3y at h
 unfold d2I
 refine a8 pEq ?_
 refine f6 h (fun _ h => ?_) (fun _ h => ?_)
 ·exact hR _ H _ _ I ⟨2, rfl, rfl, h⟩
 ·refine a8 pEq ?_
  simp only [t8]
  refine a8 (Pu.g fun a => by simp only [g7 a]; exact pEq) ?_
  refine a8 (v7 _ _) ?_
  refine m5 h (fun _ h => ?_) (fun _ h => ?_)
  ·exact hR _ H _ _ I ⟨1, rfl, rfl, h⟩
  ·exact hR _ H _ _ I ⟨0, rfl, rfl, h⟩
def a7y (x0 : Int) (x1 : Int) (H : Hp) (K : Int → Int → Hp → Prop) : Prop :=
 a1z x0 x1 H (fun a b =>
 (¬ (a = 0) →
 K 0 a b) ∧
 (a = 0 →
 (x1 : Int) ≠ 0 ∧
 K (IntKind.wrap .i64 (Int.tdiv x0 x1)) 0 b))
theorem b1U (x0 x1) {H K} (h : a7y x0 x1 H K) : a4S x0 x1 H K := by
 refine Ct.of fun w0 w ps0 H0 R E I hR => c9z ?_
 unfold a7y at h
 unfold d2x
 refine i6 Tryz.call157 h I ?_
 rintro _ a _ e b _ _ ⟨c, rfl, rfl, h⟩
 refine a8 pNe ?_
 refine a1v h (fun _ h => ?_) (fun _ h => ?_)
 ·exact hR _ a _ _ b ⟨0, c, rfl, rfl, h⟩
 ·obtain ⟨d, h⟩ := h
  refine a8 (b6l _ _ _ _ _ _ d) ?_
  exact hR _ a _ _ b ⟨(IntKind.wrap .i64 (Int.tdiv x0 x1)), 0, rfl, rfl, h⟩
def a7z (x0 : Int) (x1 : Int) (H : Hp) (K : Int → Int → Hp → Prop) : Prop :=
 a1z x0 x1 H (fun a b =>
 (¬ (a = 0) →
 K 0 a b) ∧
 (a = 0 →
 (x1 : Int) ≠ 0 ∧
 K (IntKind.wrap .i64 (x0 - (IntKind.wrap .i64 ((IntKind.wrap .i64 (Int.tdiv x0 x1)) * x1)))) 0 b))
theorem b1V (x0 x1) {H K} (h : a7z x0 x1 H K) : a4T x0 x1 H K := by
 refine Ct.of fun w0 w ps0 H0 R E I hR => c9A ?_
 unfold a7z at h
 unfold d2y
 refine i6 Tryz.call157 h I ?_
 rintro _ a _ e b _ _ ⟨c, rfl, rfl, h⟩
 refine a8 pNe ?_
 refine a1v h (fun _ h => ?_) (fun _ h => ?_)
 ·exact hR _ a _ _ b ⟨0, c, rfl, rfl, h⟩
 ·obtain ⟨d, h⟩ := h
  refine a8 (b6l _ _ _ _ _ _ d) (a8 pMu (a8 pSu ?_))
  exact hR _ a _ _ b ⟨(IntKind.wrap .i64 (x0 - (IntKind.wrap .i64 ((IntKind.wrap .i64 (Int.tdiv x0 x1)) * x1)))), 0, rfl, rfl, h⟩
def a5B (x0 : Int) (x1 : Int) (x2 : Int) (H : Hp) (K : Int → Int → Hp → Prop) : Prop :=
 (x0 = 5 →
 a1u x1 H (fun a b c =>
 K a b c)) ∧
 (¬ (x0 = 5) →
 (x0 = 6 →
 a4P x1 x2 H (fun d e f =>
 K d e f)) ∧
 (¬ (x0 = 6) →
 (x0 = 7 →
 a4Q x1 x2 H (fun g i j =>
 K g i j)) ∧
 (¬ (x0 = 7) →
 (x0 = 8 →
 a4R x1 x2 H (fun k l m =>
 K k l m)) ∧
 (¬ (x0 = 8) →
 (x0 = 9 →
 a4S x1 x2 H (fun n o p =>
 K n o p)) ∧
 (¬ (x0 = 9) →
 a4T x1 x2 H (fun q r s =>
 K q r s))))))
theorem b2A (x0 x1 x2) {H K} (h : a5B x0 x1 x2 H K) : a3t x0 x1 x2 H K := by
 refine Ct.of fun w0 w ps0 H0 R E I hR => d2l ?_
 unfold a5B at h
 unfold F98
 refine a8 pEq ?_
 refine f6 h (fun _ h => ?_) (fun _ h => ?_)
 ·refine i6 Tryz.call125 h I ?_
  rintro _ n _ ab o _ _ ⟨a, b, rfl, rfl, h⟩
  refine a8 (m8 _ _ (vi a) rfl) (a8 (m8 _ _ (vi b) rfl) ?_)
  exact hR _ n _ _ o ⟨a, b, rfl, rfl, h⟩
 ·refine a8 pEq ?_
  refine f6 h (fun _ h => ?_) (fun _ h => ?_)
  ·refine i6 Tryz.call126 h I ?_
   rintro _ p _ ac q _ _ ⟨c, d, rfl, rfl, h⟩
   refine a8 (m8 _ _ (vi c) rfl) (a8 (m8 _ _ (vi d) rfl) ?_)
   exact hR _ p _ _ q ⟨c, d, rfl, rfl, h⟩
  ·refine a8 pEq ?_
   refine f6 h (fun _ h => ?_) (fun _ h => ?_)
   ·refine i6 Tryz.call127 h I ?_
    rintro _ r _ ad s _ _ ⟨e, f, rfl, rfl, h⟩
    refine a8 (m8 _ _ (vi e) rfl) (a8 (m8 _ _ (vi f) rfl) ?_)
    exact hR _ r _ _ s ⟨e, f, rfl, rfl, h⟩
   ·refine a8 pEq ?_
    refine f6 h (fun _ h => ?_) (fun _ h => ?_)
    ·refine i6 Tryz.call128 h I ?_
     rintro _ t _ ae u _ _ ⟨g, i, rfl, rfl, h⟩
     refine a8 (m8 _ _ (vi g) rfl) (a8 (m8 _ _ (vi i) rfl) ?_)
     exact hR _ t _ _ u ⟨g, i, rfl, rfl, h⟩
    ·refine a8 pEq ?_
     refine f6 h (fun _ h => ?_) (fun _ h => ?_)
     ·refine i6 Tryz.call129 h I ?_
      rintro _ v _ af y _ _ ⟨j, k, rfl, rfl, h⟩
      refine a8 (m8 _ _ (vi j) rfl) (a8 (m8 _ _ (vi k) rfl) ?_)
      exact hR _ v _ _ y ⟨j, k, rfl, rfl, h⟩
     ·refine i6 Tryz.call130 h I ?_
      rintro _ z _ ag aa _ _ ⟨l, m, rfl, rfl, h⟩
      refine a8 (m8 _ _ (vi l) rfl) (a8 (m8 _ _ (vi m) rfl) ?_)
      exact hR _ z _ _ aa ⟨l, m, rfl, rfl, h⟩
def a5q (x0 : Int) (x1 : Int) (x2 : Int) (H : Hp) (K : Bool → Hp → Prop) : Prop :=
 (x0 = 1 →
 K (decide (x1 < x2)) H) ∧
 (¬ (x0 = 1) →
 (x0 = 2 →
 K (decide (x1 ≤ x2)) H) ∧
 (¬ (x0 = 2) →
 (x0 = 3 →
 K (decide (x1 = x2)) H) ∧
 (¬ (x0 = 3) →
 (x0 = 4 →
 K (!decide (x1 = x2)) H) ∧
 (¬ (x0 = 4) →
 (x0 = 5 →
 K (decide (x2 < x1)) H) ∧
 (¬ (x0 = 5) →
 (x0 = 6 →
 K (decide (x2 ≤ x1)) H) ∧
 (¬ (x0 = 6) →
 K false H))))))
theorem b1W (x0 x1 x2) {H K} (h : a5q x0 x1 x2 H K) : a4U x0 x1 x2 H K := by
 refine Ct.of fun w0 w ps0 H0 R E I hR => d2k ?_
 unfold a5q at h
 unfold F96
 refine a8 pEq ?_
 refine f6 h (fun _ h => ?_) (fun _ h => ?_)
 ·refine a8 pLs ?_
  exact hR _ H _ _ I ⟨(decide (x1 < x2)), rfl, rfl, h⟩
 ·refine a8 pEq ?_
  refine f6 h (fun _ h => ?_) (fun _ h => ?_)
  ·refine a8 pLe ?_
   exact hR _ H _ _ I ⟨(decide (x1 ≤ x2)), rfl, rfl, h⟩
  ·refine a8 pEq ?_
   refine f6 h (fun _ h => ?_) (fun _ h => ?_)
   ·refine a8 pEq ?_
    exact hR _ H _ _ I ⟨(decide (x1 = x2)), rfl, rfl, h⟩
   ·refine a8 pEq ?_
    refine f6 h (fun _ h => ?_) (fun _ h => ?_)
    ·refine a8 pNe ?_
     exact hR _ H _ _ I ⟨(!decide (x1 = x2)), rfl, rfl, h⟩
    ·refine a8 pEq ?_
     refine f6 h (fun _ h => ?_) (fun _ h => ?_)
     ·refine a8 pGt ?_
      exact hR _ H _ _ I ⟨(decide (x2 < x1)), rfl, rfl, h⟩
     ·refine a8 pEq ?_
      refine f6 h (fun _ h => ?_) (fun _ h => ?_)
      ·refine a8 pGe ?_
       exact hR _ H _ _ I ⟨(decide (x2 ≤ x1)), rfl, rfl, h⟩
      ·exact hR _ H _ _ I ⟨false, rfl, rfl, h⟩
end Go.Proofs.YtnhkdkcgdcgmdaaGreatDoor
