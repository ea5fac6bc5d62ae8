/- Typed formulas of the program's functions that few laws need; printed by lift.py off the code. -/
import Derived.Test.YtnhkdkcgdcgmdaaGreatDoorzXV1
import Derived.Test.YtnhkdkcgdcgmdaaGreatDoorzXG1z
namespace Go.Proofs.YtnhkdkcgdcgmdaaGreatDoor
open Go.RowKit
set_option maxRecDepth 100000
set_option maxHeartbeats 2000000
def a2J (x0 : b9) (H : Hp) (K : Int → Hp → Prop) : Prop :=
 ((!x0.fok) = true →
 K 30 H) ∧
 ((!x0.fok) = false →
 ((!x0.fnames) = true →
 K 31 H) ∧
 ((!x0.fnames) = false →
 K 0 H))
theorem a9d (x0) {H K} (h : a2J x0 H K) : a2C x0 H K := by
 refine Ct.of fun w0 w ps0 H0 R E I hR => d1Y ?_
 unfold a2J at h
 unfold F50
 refine F0 I (cs := (p7 x0)) rfl fun b c a d => ?_
 refine a8 K5 (b6 (l1 Tryz.isAgg4 a rfl) (a8 (G3 _) ?_))
 refine m5 h (fun _ h => ?_) (fun _ h => ?_)
 ·exact hR _ H _ _ a.drop ⟨30, rfl, rfl, h⟩
 ·refine a8 b2l (b6 (l1 Tryz.isAgg4 a rfl) (a8 (G3 _) ?_))
  refine m5 h (fun _ h => ?_) (fun _ h => ?_)
  ·exact hR _ H _ _ a.drop ⟨31, rfl, rfl, h⟩
  ·exact hR _ H _ _ a.drop ⟨0, rfl, rfl, h⟩
def a1A (d5v : Int) (d2g : Int) (a6m : Int) (H : Hp) (K : Int → Int → Bool → Hp → Prop) : Prop :=
 ((((decide (a6m < d2g)) || (decide (1114111 < a6m))) || ((decide (55296 ≤ a6m)) && (decide (a6m < 57344)))) = true →
 K 65533 1 false H) ∧
 ((((decide (a6m < d2g)) || (decide (1114111 < a6m))) || ((decide (55296 ≤ a6m)) && (decide (a6m < 57344)))) = false →
 K a6m d5v true H)
def a1B (a9y : ByteArray) (a7I : Int) (c6G : Int) (b3F : Int) (a0B : Int) (J9 : Int) (H : Hp) (n3 : (Int × Int) → Hp → Prop) (K : Int → Int → Bool → Hp → Prop) : Prop :=
 (J9 < c6G →
 ((decide ((a9y.size : Int) ≤ (IntKind.wrap .i64 (a7I + J9)))) = false → (0 : Int) ≤ IntKind.wrap .i64 (a7I + J9) ∧ IntKind.wrap .i64 (a7I + J9) < (a9y.size : Int)) ∧
 (((decide ((a9y.size : Int) ≤ (IntKind.wrap .i64 (a7I + J9)))) || (decide (((a9y.get! (IntKind.wrap .i64 (a7I + J9) : Int).toNat).toNat : Int) < 128))) = false → (0 : Int) ≤ IntKind.wrap .i64 (a7I + J9) ∧ IntKind.wrap .i64 (a7I + J9) < (a9y.size : Int)) ∧
 ((((decide ((a9y.size : Int) ≤ (IntKind.wrap .i64 (a7I + J9)))) || (decide (((a9y.get! (IntKind.wrap .i64 (a7I + J9) : Int).toNat).toNat : Int) < 128))) || (decide (192 ≤ ((a9y.get! (IntKind.wrap .i64 (a7I + J9) : Int).toNat).toNat : Int)))) = true →
 K 65533 1 false H) ∧
 ((((decide ((a9y.size : Int) ≤ (IntKind.wrap .i64 (a7I + J9)))) || (decide (((a9y.get! (IntKind.wrap .i64 (a7I + J9) : Int).toNat).toNat : Int) < 128))) || (decide (192 ≤ ((a9y.get! (IntKind.wrap .i64 (a7I + J9) : Int).toNat).toNat : Int)))) = false →
 (0 : Int) ≤ IntKind.wrap .i64 (a7I + J9) ∧ IntKind.wrap .i64 (a7I + J9) < (a9y.size : Int) ∧
 n3 ((IntKind.wrap .i64 ((IntKind.wrap .i64 ((IntKind.wrap .i64 (64 * a0B)) + (IntKind.wrap .i64 ((a9y.get! (IntKind.wrap .i64 (a7I + J9) : Int).toNat).toNat : Int)))) - 128)), (IntKind.wrap .i64 (J9 + 1))) H)) ∧
 (¬ (J9 < c6G) →
 a1A c6G b3F a0B H K)
def O0 (b7D : ByteArray) (c6H : Int) (a7J : Int) (a6U : Int) (a7T : Int) (H : Hp) (K : Int → Int → Bool → Hp → Prop) : Prop :=
 TL ((a7T, 1) : Int × Int) H fun (s : Int × Int) H n3 => a1B b7D c6H a7J a6U s.1 s.2 H n3 K
def a4B (x0 : ByteArray) (x1 : Int) (H : Hp) (K : Int → Int → Bool → Hp → Prop) : Prop :=
 (0 : Int) ≤ x1 ∧ x1 < (x0.size : Int) ∧
 ((IntKind.wrap .i64 ((x0.get! (x1 : Int).toNat).toNat : Int)) < 128 →
 K (IntKind.wrap .i64 ((x0.get! (x1 : Int).toNat).toNat : Int)) 1 true H) ∧
 (¬ ((IntKind.wrap .i64 ((x0.get! (x1 : Int).toNat).toNat : Int)) < 128) →
 (((decide (194 ≤ (IntKind.wrap .i64 ((x0.get! (x1 : Int).toNat).toNat : Int)))) && (decide ((IntKind.wrap .i64 ((x0.get! (x1 : Int).toNat).toNat : Int)) < 224))) = true →
 O0 x0 x1 2 128 (IntKind.wrap .i64 ((IntKind.wrap .i64 ((x0.get! (x1 : Int).toNat).toNat : Int)) - 192)) H K) ∧
 (((decide (194 ≤ (IntKind.wrap .i64 ((x0.get! (x1 : Int).toNat).toNat : Int)))) && (decide ((IntKind.wrap .i64 ((x0.get! (x1 : Int).toNat).toNat : Int)) < 224))) = false →
 (((decide (224 ≤ (IntKind.wrap .i64 ((x0.get! (x1 : Int).toNat).toNat : Int)))) && (decide ((IntKind.wrap .i64 ((x0.get! (x1 : Int).toNat).toNat : Int)) < 240))) = true →
 O0 x0 x1 3 2048 (IntKind.wrap .i64 ((IntKind.wrap .i64 ((x0.get! (x1 : Int).toNat).toNat : Int)) - 224)) H K) ∧
 (((decide (224 ≤ (IntKind.wrap .i64 ((x0.get! (x1 : Int).toNat).toNat : Int)))) && (decide ((IntKind.wrap .i64 ((x0.get! (x1 : Int).toNat).toNat : Int)) < 240))) = false →
 (((decide (240 ≤ (IntKind.wrap .i64 ((x0.get! (x1 : Int).toNat).toNat : Int)))) && (decide ((IntKind.wrap .i64 ((x0.get! (x1 : Int).toNat).toNat : Int)) < 245))) = true →
 O0 x0 x1 4 65536 (IntKind.wrap .i64 ((IntKind.wrap .i64 ((x0.get! (x1 : Int).toNat).toNat : Int)) - 240)) H K) ∧
 (((decide (240 ≤ (IntKind.wrap .i64 ((x0.get! (x1 : Int).toNat).toNat : Int)))) && (decide ((IntKind.wrap .i64 ((x0.get! (x1 : Int).toNat).toNat : Int)) < 245))) = false →
 K 65533 1 false H))))
theorem b1j (x0 x1) {H K} (h : a4B x0 x1 H K) : a4t x0 x1 H K := by
 refine Ct.of fun w0 w ps0 H0 R E I hR => c8Z ?_
 unfold a4B at h
 unfold d2d
 obtain ⟨o, p, h⟩ := h
 refine a8 (b2K _ _ _ o p) (a8 (b4m _ _) ?_)
 have hj1 : ∀ (a7J : Int) (a6U : Int) (a7T : Int) H w (_ : Inv w0 ps0 H0 H [] w) (_ : O0 x0 x1 a7J a6U a7T H K), b7K (Value.string x0) (vi x1) (vi a7J) (vi a6U) (vi a7T) w R E := by
  intro a7J a6U a7T H w I h
  unfold b7K
  intro _
  unfold O0 at h
  have hj2 : ∀ (a6m : Int) H w (_ : Inv w0 ps0 H0 H [] w) (_ : a1A a7J a6U a6m H K), b7J (vi a7J) (vi a6U) (vi a6m) w R E := by
   intro a6m H w I h
   unfold b7J
   intro _
   unfold a1A at h
   refine a8 pLs ?_
   simp only [t8]
   refine a8 (Pu.g fun c => by simp only [g7 c]; exact pGt) ?_
   refine a8 (E8 _ _) ?_
   simp only [t8]
   refine a8 (Pu.g fun c => by simp only [g7 c]; exact pGe) ?_
   simp only [a5t, a8I]
   refine a8 (Pu.e (a0f _ _ _) (Pu.g fun hb => by obtain ⟨c, d⟩ := a2T hb; simp only [g7 hb]; exact pLs)) ?_
   refine a8 (Pu.g fun c => by simp only [g7 c, a7O c]; exact (v7 _ _)) ?_
   refine a8 (E8 _ _) ?_
   refine m5 h (fun _ h => ?_) (fun _ h => ?_)
   ·exact hR _ H _ _ I ⟨65533, 1, false, rfl, rfl, h⟩
   ·exact hR _ H _ _ I ⟨a6m, a7J, true, rfl, rfl, h⟩
  refine r5 fun j2 hx2 => ?_
  obtain ⟨k, j, q, r⟩ := h
  refine y7 (J := fun n l w => ∃ (s : Int × Int) (H : Hp) , n = j s ∧ l = (match s with | (a0B, J9) => [(vi a0B), (vi J9)]) ∧ (match s with | (a0B, J9) => Inv w0 ps0 H0 H [] w) ∧ k s H) ⟨_, (a7T, 1), H, rfl, rfl, I, q⟩ ?_
  rintro y z w next3 ⟨⟨a0B, J9⟩, H, rfl, m, I, t⟩ hn3
  dsimp only at m I
  simp only [List.map_cons, List.map_nil, List.cons.injEq, and_true] at m
  obtain ⟨e10, e11⟩ := m
  simp only [e10, e11]
  obtain ⟨n3, hm3, h⟩ : ∃ n3 : (Int × Int) → Hp → Prop, (∀ s' H', n3 s' H' → k s' H' ∧ j s' < j (a0B, J9)) ∧ a1B x0 x1 a7J a6U a0B J9 H n3 K := ⟨_, fun _ _ h => h, r (a0B, J9) H (fun s' H' => k s' H' ∧ j s' < j (a0B, J9)) t (fun _ _ a b => ⟨a, b⟩)⟩
  unfold c2v
  unfold a1B at h
  refine a8 pLs ?_
  refine f6 h (fun _ h => ?_) (fun _ h => ?_)
  ·refine a8 pAd (a8 (b3r _) (a8 pGe ?_))
   simp only [t8]
   refine a8 (Pu.g fun c => by simp only [g7 c]; exact pAd) ?_
   obtain ⟨f, h⟩ := h
   refine a8 (Pu.g fun hb => by have c := hb; simp only [g7 c]; exact (b2K _ _ _ (f hb).1 (f hb).2)) ?_
   refine a8 (Pu.g fun c => by simp only [g7 c]; exact pLs) ?_
   refine a8 (E8 _ _) ?_
   simp only [t8]
   refine a8 (Pu.g fun c => by simp only [g7 c]; exact pAd) ?_
   obtain ⟨i, h⟩ := h
   refine a8 (Pu.g fun hb => by have c := hb; simp only [g7 c]; exact (b2K _ _ _ (i hb).1 (i hb).2)) ?_
   refine a8 (Pu.g fun c => by simp only [g7 c]; exact pGe) ?_
   refine a8 (E8 _ _) ?_
   refine m5 h (fun _ h => ?_) (fun _ h => ?_)
   ·exact hR _ H _ _ I ⟨65533, 1, false, rfl, rfl, h⟩
   ·refine a8 pMu (a8 pAd ?_)
    obtain ⟨u, v, h⟩ := h
    refine a8 (b2K _ _ _ u v) (a8 (b4m _ _) (a8 pAd (a8 pSu (a8 pAd ?_))))
    exact hn3 _ _ _ (hm3 _ _ h).2 ⟨((IntKind.wrap .i64 ((IntKind.wrap .i64 ((IntKind.wrap .i64 (64 * a0B)) + (IntKind.wrap .i64 ((x0.get! (IntKind.wrap .i64 (x1 + J9) : Int).toNat).toNat : Int)))) - 128)), (IntKind.wrap .i64 (J9 + 1))), H, rfl, rfl, I, (hm3 _ _ h).1⟩
  ·exact hx2 _ _ (hj2 a0B H _ I h)
 refine r5 fun j1 hx1 => ?_
 refine a8 pLs ?_
 refine f6 h (fun _ h => ?_) (fun _ h => ?_)
 ·exact hR _ H _ _ I ⟨(IntKind.wrap .i64 ((x0.get! (x1 : Int).toNat).toNat : Int)), 1, true, rfl, rfl, h⟩
 ·refine a8 pGe ?_
  simp only [t8]
  refine a8 (Pu.g fun c => by simp only [g7 c]; exact pLs) ?_
  refine a8 (v7 _ _) ?_
  refine m5 h (fun _ h => ?_) (fun _ h => ?_)
  ·refine a8 pSu ?_
   exact hx1 _ _ (hj1 2 128 (IntKind.wrap .i64 ((IntKind.wrap .i64 ((x0.get! (x1 : Int).toNat).toNat : Int)) - 192)) H _ I h)
  ·refine a8 pGe ?_
   simp only [t8]
   refine a8 (Pu.g fun c => by simp only [g7 c]; exact pLs) ?_
   refine a8 (v7 _ _) ?_
   refine m5 h (fun _ h => ?_) (fun _ h => ?_)
   ·refine a8 pSu ?_
    exact hx1 _ _ (hj1 3 2048 (IntKind.wrap .i64 ((IntKind.wrap .i64 ((x0.get! (x1 : Int).toNat).toNat : Int)) - 224)) H _ I h)
   ·refine a8 pGe ?_
    simp only [t8]
    refine a8 (Pu.g fun c => by simp only [g7 c]; exact pLs) ?_
    refine a8 (v7 _ _) ?_
    refine m5 h (fun _ h => ?_) (fun _ h => ?_)
    ·refine a8 pSu ?_
     exact hx1 _ _ (hj1 4 65536 (IntKind.wrap .i64 ((IntKind.wrap .i64 ((x0.get! (x1 : Int).toNat).toNat : Int)) - 240)) H _ I h)
    ·exact hR _ H _ _ I ⟨65533, 1, false, rfl, rfl, h⟩
def a5X (x0 : Int) (x1 : Int) (x2 : Int) (H : Hp) (K : Bool → Hp → Prop) : Prop :=
 K ((decide (x1 ≤ x0)) && (decide (x0 ≤ x2))) H
theorem a9Q (x0 x1 x2) {H K} (h : a5X x0 x1 x2 H K) : A5 x0 x1 x2 H K := by
 refine Ct.of fun w0 w ps0 H0 R E I hR => c9b ?_
 unfold a5X at h
 unfold d2f
 refine a8 pGe ?_
 simp only [t8]
 refine a8 (Pu.g fun a => by simp only [g7 a]; exact pLe) ?_
 refine a8 (v7 _ _) ?_
 exact hR _ H _ _ I ⟨((decide (x1 ≤ x0)) && (decide (x0 ≤ x2))), rfl, rfl, h⟩
def a0W (H : Hp) (K : Int → Hp → Prop) : Prop :=
 K 6 H
def K6 (a5A : Int) (a5Q : ByteArray) (F7 : Int) (H : Hp) (n2 : Int → Hp → Prop) (K : Int → Hp → Prop) : Prop :=
 (F7 < (a5Q.size : Int) →
 (0 : Int) ≤ F7 ∧ F7 < (a5Q.size : Int) ∧
 (a5A = (IntKind.wrap .i64 ((a5Q.get! (F7 : Int).toNat).toNat : Int)) →
 K 5 H) ∧
 (¬ (a5A = (IntKind.wrap .i64 ((a5Q.get! (F7 : Int).toNat).toNat : Int))) →
 n2 (IntKind.wrap .i64 (F7 + 1)) H)) ∧
 (¬ (F7 < (a5Q.size : Int)) →
 a0W H K)
def a4e (x0 : Int) (H : Hp) (K : Int → Hp → Prop) : Prop :=
 ((((decide (x0 = 32)) || (decide (x0 = 9))) || (decide (x0 = 13))) = true →
 K 1 H) ∧
 ((((decide (x0 = 32)) || (decide (x0 = 9))) || (decide (x0 = 13))) = false →
 (x0 = 10 →
 K 2 H) ∧
 (¬ (x0 = 10) →
 A5 x0 48 57 H (fun e f =>
 (e = true →
 K 4 f) ∧
 (e = false →
 A5 x0 97 122 f (fun a g =>
 TG (a = false) (A5 x0 65 90 g) false g (fun (b : Bool) (i : Hp) =>
 TG (((a || b) || (decide (x0 = 95))) = false) (A5 x0 192 591 i) false i (fun (c : Bool) (j : Hp) =>
 TG ((((a || b) || (decide (x0 = 95))) || ((c && (!decide (x0 = 215))) && (!decide (x0 = 247)))) = false) (A5 x0 913 969 j) false j (fun (d : Bool) (k : Hp) =>
 TG (((((a || b) || (decide (x0 = 95))) || ((c && (!decide (x0 = 215))) && (!decide (x0 = 247)))) || (d && (!decide (x0 = 930)))) = false) (A5 x0 1040 1103 k) false k (fun (l : Bool) (m : Hp) =>
 ((((((a || b) || (decide (x0 = 95))) || ((c && (!decide (x0 = 215))) && (!decide (x0 = 247)))) || (d && (!decide (x0 = 930)))) || l) = true →
 K 3 m) ∧
 ((((((a || b) || (decide (x0 = 95))) || ((c && (!decide (x0 = 215))) && (!decide (x0 = 247)))) || (d && (!decide (x0 = 930)))) || l) = false →
 TL (0 : Int) m fun (s : Int) H n2 => K6 x0 ⟨#[59, 44, 123, 125, 40, 41, 91, 93, 61, 33, 60, 62, 43, 45, 42, 47, 37, 38, 124]⟩ s H n2 K))))))))))
theorem b0o (x0) {H K} (h : a4e x0 H K) : a4a x0 H K := by
 refine Ct.of fun w0 w ps0 H0 R E I hR => c9a ?_
 unfold a4e at h
 unfold d2e
 refine a8 pEq ?_
 simp only [t8]
 refine a8 (Pu.g fun c => by simp only [g7 c]; exact pEq) ?_
 refine a8 (E8 _ _) ?_
 simp only [t8]
 refine a8 (Pu.g fun c => by simp only [g7 c]; exact pEq) ?_
 refine a8 (E8 _ _) ?_
 refine m5 h (fun _ h => ?_) (fun _ h => ?_)
 ·exact hR _ H _ _ I ⟨1, rfl, rfl, h⟩
 ·refine a8 pEq ?_
  refine f6 h (fun _ h => ?_) (fun _ h => ?_)
  ·exact hR _ H _ _ I ⟨2, rfl, rfl, h⟩
  ·refine i6 Tryz.call156 h I ?_
   rintro _ bd _ bj ak _ _ ⟨bk, rfl, rfl, h⟩
   refine m5 h (fun _ h => ?_) (fun _ h => ?_)
   ·exact hR _ bd _ _ ak ⟨4, rfl, rfl, h⟩
   ·refine i6 Tryz.call156 h ak ?_
    rintro _ al _ am an _ _ ⟨k, rfl, rfl, h⟩
    simp only [t8]
    refine a0i (D := fun ao aa => ∃ (d : Bool) (t : Hp) , ao = (gv k false (vB d)) ∧ (Inv w0 ps0 H0 t [] aa) ∧ (∀ i, i < am.heap.size → ¬ inF [] i → aa.heap[i]? = am.heap[i]?) ∧ Hle al t ∧ (TG (((k || d) || (decide (x0 = 95))) = false) (A5 x0 192 591 t) false t (fun (f : Bool) (r : Hp) =>
 TG ((((k || d) || (decide (x0 = 95))) || ((f && (!decide (x0 = 215))) && (!decide (x0 = 247)))) = false) (A5 x0 913 969 r) false r (fun (m : Bool) (p : Hp) =>
 TG (((((k || d) || (decide (x0 = 95))) || ((f && (!decide (x0 = 215))) && (!decide (x0 = 247)))) || (m && (!decide (x0 = 930)))) = false) (A5 x0 1040 1103 p) false p (fun (q : Bool) (o : Hp) =>
 ((((((k || d) || (decide (x0 = 95))) || ((f && (!decide (x0 = 215))) && (!decide (x0 = 247)))) || (m && (!decide (x0 = 930)))) || q) = true →
 K 3 o) ∧
 ((((((k || d) || (decide (x0 = 95))) || ((f && (!decide (x0 = 215))) && (!decide (x0 = 247)))) || (m && (!decide (x0 = 930)))) || q) = false →
 TL (0 : Int) o fun (s : Int) H n2 => K6 x0 ⟨#[59, 44, 123, 125, 40, 41, 91, 93, 61, 33, 60, 62, 43, 45, 42, 47, 37, 38, 124]⟩ s H n2 K)))))) (fun u => ?_) (fun u => ?_) ?_
    ·replace h := h.1 u
     have c := u
     simp only [g7 c]
     refine i6 Tryz.call156 h an ?_
     rintro _ t _ aa ae ap aq ⟨d, rfl, rfl, h⟩
     exact ⟨d, t, by rfl, ae, aq, ap, h⟩
    ·exact ⟨false, al, by rw [a3E u], an, fun _ _ _ => rfl, Hle.refl _, h.2 u⟩
    ·clear h
     rintro ao aa ⟨d, t, rfl, ae, aq, ap, h⟩
     refine a8 (E8 _ _) ?_
     simp only [t8]
     refine a8 (Pu.g fun c => by simp only [g7 c]; exact pEq) ?_
     refine a8 (E8 _ _) ?_
     simp only [t8]
     refine a0i (D := fun ar ab => ∃ (f : Bool) (r : Hp) , ar = (gv ((k || d) || (decide (x0 = 95))) false (vB f)) ∧ (Inv w0 ps0 H0 r [] ab) ∧ (∀ i, i < aa.heap.size → ¬ inF [] i → ab.heap[i]? = aa.heap[i]?) ∧ Hle t r ∧ (TG ((((k || d) || (decide (x0 = 95))) || ((f && (!decide (x0 = 215))) && (!decide (x0 = 247)))) = false) (A5 x0 913 969 r) false r (fun (m : Bool) (p : Hp) =>
 TG (((((k || d) || (decide (x0 = 95))) || ((f && (!decide (x0 = 215))) && (!decide (x0 = 247)))) || (m && (!decide (x0 = 930)))) = false) (A5 x0 1040 1103 p) false p (fun (q : Bool) (o : Hp) =>
 ((((((k || d) || (decide (x0 = 95))) || ((f && (!decide (x0 = 215))) && (!decide (x0 = 247)))) || (m && (!decide (x0 = 930)))) || q) = true →
 K 3 o) ∧
 ((((((k || d) || (decide (x0 = 95))) || ((f && (!decide (x0 = 215))) && (!decide (x0 = 247)))) || (m && (!decide (x0 = 930)))) || q) = false →
 TL (0 : Int) o fun (s : Int) H n2 => K6 x0 ⟨#[59, 44, 123, 125, 40, 41, 91, 93, 61, 33, 60, 62, 43, 45, 42, 47, 37, 38, 124]⟩ s H n2 K))))) (fun v => ?_) (fun v => ?_) ?_
     ·replace h := h.1 v
      have c := v
      simp only [g7 c]
      refine i6 Tryz.call156 h ae ?_
      rintro _ r _ ab af au av ⟨f, rfl, rfl, h⟩
      exact ⟨f, r, by rfl, af, av, au, h⟩
     ·exact ⟨false, t, by rw [a3E v], ae, fun _ _ _ => rfl, Hle.refl _, h.2 v⟩
     ·clear h
      rintro ar ab ⟨f, r, rfl, af, av, au, h⟩
      simp only [a5t, a8I]
      refine a8 (Pu.e (a0f _ _ _) (Pu.g fun hb => by obtain ⟨c, j⟩ := a2T hb; simp only [g7 hb]; exact pNe)) ?_
      refine a8 (Pu.g fun c => by simp only [g7 c, a7O c]; exact (v7 _ _)) ?_
      simp only [a5t, a8I]
      refine a8 (Pu.e (a0f _ _ _) (Pu.g fun hb => by obtain ⟨c, j⟩ := a2T hb; simp only [g7 hb]; exact pNe)) ?_
      refine a8 (Pu.g fun c => by simp only [g7 c, a7O c]; exact (v7 _ _)) ?_
      refine a8 (E8 _ _) ?_
      simp only [t8]
      refine a0i (D := fun aw ac => ∃ (m : Bool) (p : Hp) , aw = (gv (((k || d) || (decide (x0 = 95))) || ((f && (!decide (x0 = 215))) && (!decide (x0 = 247)))) false (vB m)) ∧ (Inv w0 ps0 H0 p [] ac) ∧ (∀ i, i < ab.heap.size → ¬ inF [] i → ac.heap[i]? = ab.heap[i]?) ∧ Hle r p ∧ (TG (((((k || d) || (decide (x0 = 95))) || ((f && (!decide (x0 = 215))) && (!decide (x0 = 247)))) || (m && (!decide (x0 = 930)))) = false) (A5 x0 1040 1103 p) false p (fun (q : Bool) (o : Hp) =>
 ((((((k || d) || (decide (x0 = 95))) || ((f && (!decide (x0 = 215))) && (!decide (x0 = 247)))) || (m && (!decide (x0 = 930)))) || q) = true →
 K 3 o) ∧
 ((((((k || d) || (decide (x0 = 95))) || ((f && (!decide (x0 = 215))) && (!decide (x0 = 247)))) || (m && (!decide (x0 = 930)))) || q) = false →
 TL (0 : Int) o fun (s : Int) H n2 => K6 x0 ⟨#[59, 44, 123, 125, 40, 41, 91, 93, 61, 33, 60, 62, 43, 45, 42, 47, 37, 38, 124]⟩ s H n2 K)))) (fun y => ?_) (fun y => ?_) ?_
      ·replace h := h.1 y
       have c := y
       simp only [g7 c]
       refine i6 Tryz.call156 h af ?_
       rintro _ p _ ac ag ax ay ⟨m, rfl, rfl, h⟩
       exact ⟨m, p, by rfl, ag, ay, ax, h⟩
      ·exact ⟨false, r, by rw [a3E y], af, fun _ _ _ => rfl, Hle.refl _, h.2 y⟩
      ·clear h
       rintro aw ac ⟨m, p, rfl, ag, ay, ax, h⟩
       simp only [a5t, a8I]
       refine a8 (Pu.e (a0f _ _ _) (Pu.g fun hb => by obtain ⟨c, j⟩ := a2T hb; simp only [g7 hb]; exact pNe)) ?_
       refine a8 (Pu.g fun c => by simp only [g7 c, a7O c]; exact (v7 _ _)) ?_
       refine a8 (E8 _ _) ?_
       simp only [t8]
       refine a0i (D := fun az ah => ∃ (q : Bool) (o : Hp) , az = (gv ((((k || d) || (decide (x0 = 95))) || ((f && (!decide (x0 = 215))) && (!decide (x0 = 247)))) || (m && (!decide (x0 = 930)))) false (vB q)) ∧ (Inv w0 ps0 H0 o [] ah) ∧ (∀ i, i < ac.heap.size → ¬ inF [] i → ah.heap[i]? = ac.heap[i]?) ∧ Hle p o ∧ (((((((k || d) || (decide (x0 = 95))) || ((f && (!decide (x0 = 215))) && (!decide (x0 = 247)))) || (m && (!decide (x0 = 930)))) || q) = true →
 K 3 o) ∧
 ((((((k || d) || (decide (x0 = 95))) || ((f && (!decide (x0 = 215))) && (!decide (x0 = 247)))) || (m && (!decide (x0 = 930)))) || q) = false →
 TL (0 : Int) o fun (s : Int) H n2 => K6 x0 ⟨#[59, 44, 123, 125, 40, 41, 91, 93, 61, 33, 60, 62, 43, 45, 42, 47, 37, 38, 124]⟩ s H n2 K))) (fun z => ?_) (fun z => ?_) ?_
       ·replace h := h.1 z
        have c := z
        simp only [g7 c]
        refine i6 Tryz.call156 h ag ?_
        rintro _ o _ ah ai ba bb ⟨q, rfl, rfl, h⟩
        exact ⟨q, o, by rfl, ai, bb, ba, h⟩
       ·exact ⟨false, p, by rw [a3E z], ag, fun _ _ _ => rfl, Hle.refl _, h.2 z⟩
       ·clear h
        rintro az ah ⟨q, o, rfl, ai, bb, ba, h⟩
        refine a8 (E8 _ _) ?_
        refine m5 h (fun _ h => ?_) (fun _ h => ?_)
        ·exact hR _ o _ _ ai ⟨3, rfl, rfl, h⟩
        ·have hj1 : ∀ H w (_ : Inv w0 ps0 H0 H [] w) (_ : a0W H K), b7L w R E := by
          intro H w I h
          unfold b7L
          intro _
          unfold a0W at h
          exact hR _ H _ _ I ⟨6, rfl, rfl, h⟩
         refine r5 fun j1 hx1 => ?_
         obtain ⟨aj, ad, be, bf⟩ := h
         refine y7 (J := fun n l w => ∃ (s : Int) (H : Hp) , n = ad s ∧ l = [(vi s)] ∧ Inv w0 ps0 H0 H [] w ∧ aj s H) ⟨_, 0, o, rfl, rfl, ai, be⟩ ?_
         rintro bl bm w next2 ⟨F7, H, rfl, bc, I, bg⟩ hn2
         simp only [List.map_cons, List.map_nil, List.cons.injEq, and_true] at bc
         have e4 := bc
         simp only [e4]
         obtain ⟨n2, hm2, h⟩ : ∃ n2 : Int → Hp → Prop, (∀ s' H', n2 s' H' → aj s' H' ∧ ad s' < ad F7) ∧ K6 x0 ⟨#[59, 44, 123, 125, 40, 41, 91, 93, 61, 33, 60, 62, 43, 45, 42, 47, 37, 38, 124]⟩ F7 H n2 K := ⟨_, fun _ _ h => h, bf F7 H (fun s' H' => aj s' H' ∧ ad s' < ad F7) bg (fun _ _ a b => ⟨a, b⟩)⟩
         unfold c2w
         unfold K6 at h
         refine a8 (b3r _) (a8 pLs ?_)
         refine f6 h (fun _ h => ?_) (fun _ h => ?_)
         ·obtain ⟨bh, bi, h⟩ := h
          refine a8 (b2K _ _ _ bh bi) (a8 (b4m _ _) (a8 pEq ?_))
          refine f6 h (fun _ h => ?_) (fun _ h => ?_)
          ·exact hR _ H _ _ I ⟨5, rfl, rfl, h⟩
          ·refine a8 pAd ?_
           exact hn2 _ _ _ (hm2 _ _ h).2 ⟨(IntKind.wrap .i64 (F7 + 1)), H, rfl, rfl, I, (hm2 _ _ h).1⟩
         ·exact hx1 _ _ (hj1 H _ I h)
def p6 (u5 : Bool) (H : Hp) (K : Bool → Hp → Prop) : Prop :=
 (u5 = true →
 K true H) ∧
 (u5 = false →
 K false H)
def a4C (x0 : ByteArray) (H : Hp) (K : Bool → Hp → Prop) : Prop :=
 (x0 = ⟨#[118, 97, 114]⟩ →
 p6 (decide (x0 = ⟨#[118, 97, 114]⟩)) H K) ∧
 (¬ (x0 = ⟨#[118, 97, 114]⟩) →
 (x0 = ⟨#[97, 114, 114, 97, 121]⟩ →
 p6 (decide (x0 = ⟨#[97, 114, 114, 97, 121]⟩)) H K) ∧
 (¬ (x0 = ⟨#[97, 114, 114, 97, 121]⟩) →
 (x0 = ⟨#[105, 102]⟩ →
 p6 (decide (x0 = ⟨#[105, 102]⟩)) H K) ∧
 (¬ (x0 = ⟨#[105, 102]⟩) →
 (x0 = ⟨#[101, 108, 115, 101]⟩ →
 p6 (decide (x0 = ⟨#[101, 108, 115, 101]⟩)) H K) ∧
 (¬ (x0 = ⟨#[101, 108, 115, 101]⟩) →
 (x0 = ⟨#[119, 104, 105, 108, 101]⟩ →
 p6 (decide (x0 = ⟨#[119, 104, 105, 108, 101]⟩)) H K) ∧
 (¬ (x0 = ⟨#[119, 104, 105, 108, 101]⟩) →
 (x0 = ⟨#[97, 115, 115, 101, 114, 116]⟩ →
 p6 (decide (x0 = ⟨#[97, 115, 115, 101, 114, 116]⟩)) H K) ∧
 (¬ (x0 = ⟨#[97, 115, 115, 101, 114, 116]⟩) →
 (x0 = ⟨#[97, 115, 115, 117, 109, 101]⟩ →
 p6 (decide (x0 = ⟨#[97, 115, 115, 117, 109, 101]⟩)) H K) ∧
 (¬ (x0 = ⟨#[97, 115, 115, 117, 109, 101]⟩) →
 (x0 = ⟨#[115, 107, 105, 112]⟩ →
 p6 (decide (x0 = ⟨#[115, 107, 105, 112]⟩)) H K) ∧
 (¬ (x0 = ⟨#[115, 107, 105, 112]⟩) →
 (x0 = ⟨#[105, 110, 112, 117, 116]⟩ →
 p6 (decide (x0 = ⟨#[105, 110, 112, 117, 116]⟩)) H K) ∧
 (¬ (x0 = ⟨#[105, 110, 112, 117, 116]⟩) →
 (x0 = ⟨#[116, 114, 117, 101]⟩ →
 p6 (decide (x0 = ⟨#[116, 114, 117, 101]⟩)) H K) ∧
 (¬ (x0 = ⟨#[116, 114, 117, 101]⟩) →
 p6 (decide (x0 = ⟨#[102, 97, 108, 115, 101]⟩)) H K))))))))))
theorem b1k (x0) {H K} (h : a4C x0 H K) : a4u x0 H K := by
 refine Ct.of fun w0 w ps0 H0 R E I hR => c8Y ?_
 unfold a4C at h
 unfold d2c
 have hj1 : ∀ (u5 : Bool) H w (_ : Inv w0 ps0 H0 H [] w) (_ : p6 u5 H K), b7I (vB u5) w R E := by
  intro u5 H w I h
  unfold b7I
  intro _
  unfold p6 at h
  refine m5 h (fun _ h => ?_) (fun _ h => ?_)
  ·exact hR _ H _ _ I ⟨true, rfl, rfl, h⟩
  ·exact hR _ H _ _ I ⟨false, rfl, rfl, h⟩
 refine r5 fun j1 hx1 => ?_
 refine a8 (Q3 _ _ _ _ _) ?_
 refine f6 h (fun _ h => ?_) (fun _ h => ?_)
 ·exact hx1 _ _ (hj1 (decide (x0 = ⟨#[118, 97, 114]⟩)) H _ I h)
 ·refine a8 (Q3 _ _ _ _ _) ?_
  refine f6 h (fun _ h => ?_) (fun _ h => ?_)
  ·exact hx1 _ _ (hj1 (decide (x0 = ⟨#[97, 114, 114, 97, 121]⟩)) H _ I h)
  ·refine a8 (Q3 _ _ _ _ _) ?_
   refine f6 h (fun _ h => ?_) (fun _ h => ?_)
   ·exact hx1 _ _ (hj1 (decide (x0 = ⟨#[105, 102]⟩)) H _ I h)
   ·refine a8 (Q3 _ _ _ _ _) ?_
    refine f6 h (fun _ h => ?_) (fun _ h => ?_)
    ·exact hx1 _ _ (hj1 (decide (x0 = ⟨#[101, 108, 115, 101]⟩)) H _ I h)
    ·refine a8 (Q3 _ _ _ _ _) ?_
     refine f6 h (fun _ h => ?_) (fun _ h => ?_)
     ·exact hx1 _ _ (hj1 (decide (x0 = ⟨#[119, 104, 105, 108, 101]⟩)) H _ I h)
     ·refine a8 (Q3 _ _ _ _ _) ?_
      refine f6 h (fun _ h => ?_) (fun _ h => ?_)
      ·exact hx1 _ _ (hj1 (decide (x0 = ⟨#[97, 115, 115, 101, 114, 116]⟩)) H _ I h)
      ·refine a8 (Q3 _ _ _ _ _) ?_
       refine f6 h (fun _ h => ?_) (fun _ h => ?_)
       ·exact hx1 _ _ (hj1 (decide (x0 = ⟨#[97, 115, 115, 117, 109, 101]⟩)) H _ I h)
       ·refine a8 (Q3 _ _ _ _ _) ?_
        refine f6 h (fun _ h => ?_) (fun _ h => ?_)
        ·exact hx1 _ _ (hj1 (decide (x0 = ⟨#[115, 107, 105, 112]⟩)) H _ I h)
        ·refine a8 (Q3 _ _ _ _ _) ?_
         refine f6 h (fun _ h => ?_) (fun _ h => ?_)
         ·exact hx1 _ _ (hj1 (decide (x0 = ⟨#[105, 110, 112, 117, 116]⟩)) H _ I h)
         ·refine a8 (Q3 _ _ _ _ _) ?_
          refine f6 h (fun _ h => ?_) (fun _ h => ?_)
          ·exact hx1 _ _ (hj1 (decide (x0 = ⟨#[116, 114, 117, 101]⟩)) H _ I h)
          ·refine a8 (Q3 _ _ _ _ _) ?_
           exact hx1 _ _ (hj1 (decide (x0 = ⟨#[102, 97, 108, 115, 101]⟩)) H _ I h)
def a1C (a7H : Int) (H : Hp) (K : Bool → Hp → Prop) : Prop :=
 K (decide (a7H ≤ 32)) H
def U9 (a5A : ByteArray) (a5Q : Int) (F7 : Int) (H : Hp) (n2 : (Int × Int) → Hp → Prop) (K : Bool → Hp → Prop) : Prop :=
 (F7 < (a5A.size : Int) →
 a4t a5A F7 H (fun d e b f =>
 a4a d f (fun a c =>
 (((!b) || ((!decide (a = 3)) && ((!decide (a = 4)) || (decide (a5Q = 0))))) = true →
 K false c) ∧
 (((!b) || ((!decide (a = 3)) && ((!decide (a = 4)) || (decide (a5Q = 0))))) = false →
 n2 ((IntKind.wrap .i64 (a5Q + 1)), (IntKind.wrap .i64 (F7 + e))) c)))) ∧
 (¬ (F7 < (a5A.size : Int)) →
 a1C a5Q H K)
def a4D (x0 : ByteArray) (H : Hp) (K : Bool → Hp → Prop) : Prop :=
 TG (((decide (x0 = ⟨#[]⟩)) || (decide (128 < (x0.size : Int)))) = false) (a4u x0 H) false H (fun (a : Bool) (b : Hp) =>
 ((((decide (x0 = ⟨#[]⟩)) || (decide (128 < (x0.size : Int)))) || a) = true →
 K false b) ∧
 ((((decide (x0 = ⟨#[]⟩)) || (decide (128 < (x0.size : Int)))) || a) = false →
 TL ((0, 0) : Int × Int) b fun (s : Int × Int) H n2 => U9 x0 s.1 s.2 H n2 K))
theorem b1l (x0) {H K} (h : a4D x0 H K) : a2t x0 H K := by
 refine Ct.of fun w0 w ps0 H0 R E I hR => d1Z ?_
 unfold a4D at h
 unfold F86
 refine a8 (Q3 _ _ _ _ _) ?_
 simp only [t8]
 refine a8 (Pu.g fun c => by simp only [g7 c]; exact (b3r _)) ?_
 refine a8 (Pu.g fun c => by simp only [g7 c]; exact pGt) ?_
 refine a8 (E8 _ _) ?_
 simp only [t8]
 refine a0i (D := fun v p => ∃ (k : Bool) (f : Hp) , v = (gv ((decide (x0 = ⟨#[]⟩)) || (decide (128 < (x0.size : Int)))) false (vB k)) ∧ (Inv w0 ps0 H0 f [] p) ∧ (∀ i, i < w.heap.size → ¬ inF [] i → p.heap[i]? = w.heap[i]?) ∧ Hle H f ∧ (((((decide (x0 = ⟨#[]⟩)) || (decide (128 < (x0.size : Int)))) || k) = true →
 K false f) ∧
 ((((decide (x0 = ⟨#[]⟩)) || (decide (128 < (x0.size : Int)))) || k) = false →
 TL ((0, 0) : Int × Int) f fun (s : Int × Int) H n2 => U9 x0 s.1 s.2 H n2 K))) (fun j => ?_) (fun j => ?_) ?_
 ·replace h := h.1 j
  have c := j
  simp only [g7 c]
  refine i6 Tryz.call122 h I ?_
  rintro _ f _ p q y z ⟨k, rfl, rfl, h⟩
  exact ⟨k, f, by rfl, q, z, y, h⟩
 ·exact ⟨false, H, by rw [a3E j], I, fun _ _ _ => rfl, Hle.refl _, h.2 j⟩
 ·clear h
  rintro v p ⟨k, f, rfl, q, z, y, h⟩
  refine a8 (E8 _ _) ?_
  refine m5 h (fun _ h => ?_) (fun _ h => ?_)
  ·exact hR _ f _ _ q ⟨false, rfl, rfl, h⟩
  ·have hj1 : ∀ (a7H : Int) H w (_ : Inv w0 ps0 H0 H [] w) (_ : a1C a7H H K), c0t (vi a7H) w R E := by
    intro a7H H w I h
    unfold c0t
    intro _
    unfold a1C at h
    refine a8 pLe ?_
    exact hR _ H _ _ I ⟨(decide (a7H ≤ 32)), rfl, rfl, h⟩
   refine r5 fun j1 hx1 => ?_
   obtain ⟨t, o, ad, ae⟩ := h
   refine y7 (J := fun n l w => ∃ (s : Int × Int) (H : Hp) , n = o s ∧ l = (match s with | (a5Q, F7) => [(vi a5Q), (vi F7)]) ∧ (match s with | (a5Q, F7) => Inv w0 ps0 H0 H [] w) ∧ t s H) ⟨_, (0, 0), f, rfl, rfl, q, ad⟩ ?_
   rintro aj ak w next2 ⟨⟨a5Q, F7⟩, H, rfl, u, I, af⟩ hn2
   dsimp only at u I
   simp only [List.map_cons, List.map_nil, List.cons.injEq, and_true] at u
   obtain ⟨e3, e4⟩ := u
   simp only [e3, e4]
   obtain ⟨n2, hm2, h⟩ : ∃ n2 : (Int × Int) → Hp → Prop, (∀ s' H', n2 s' H' → t s' H' ∧ o s' < o (a5Q, F7)) ∧ U9 x0 a5Q F7 H n2 K := ⟨_, fun _ _ h => h, ae (a5Q, F7) H (fun s' H' => t s' H' ∧ o s' < o (a5Q, F7)) af (fun _ _ a b => ⟨a, b⟩)⟩
   unfold c5h
   unfold U9 at h
   refine a8 (b3r _) (a8 pLs ?_)
   refine f6 h (fun _ h => ?_) (fun _ h => ?_)
   ·refine i6 Tryz.call123 h I ?_
    rintro _ _ _ al ag _ _ ⟨ah, aa, ai, rfl, rfl, h⟩
    refine a8 (m8 _ _ (vi ah) rfl) (a8 (m8 _ _ (vi aa) rfl) (a8 (m8 _ _ (vB ai) rfl) ?_))
    refine i6 Tryz.call124 h ag ?_
    rintro _ ab _ am ac _ _ ⟨an, rfl, rfl, h⟩
    refine a8 (G3 _) ?_
    simp only [t8]
    refine a8 (Pu.g fun c => by simp only [g7 c]; exact pNe) ?_
    simp only [a5t, a8I]
    refine a8 (Pu.e (a0f _ _ _) (Pu.g fun hb => by obtain ⟨c, d⟩ := a2T hb; simp only [g7 hb]; exact pNe)) ?_
    simp only [a5t, b9w]
    refine a8 (Pu.e (a2W _ _ _) (Pu.g fun hb => by obtain ⟨r, m⟩ := a4K hb; obtain ⟨c, d⟩ := a2T r; simp only [g7 hb]; exact pEq)) ?_
    refine a8 (Pu.e (a0f _ _ _) (Pu.g fun hb => by obtain ⟨c, d⟩ := a2T hb; simp only [g7 hb, b2E hb]; exact (E8 _ _))) ?_
    refine a8 (Pu.g fun c => by simp only [g7 c, a7O c]; exact (v7 _ _)) ?_
    refine a8 (E8 _ _) ?_
    refine m5 h (fun _ h => ?_) (fun _ h => ?_)
    ·exact hR _ ab _ _ ac ⟨false, rfl, rfl, h⟩
    ·refine a8 pAd (a8 pAd ?_)
     exact hn2 _ _ _ (hm2 _ _ h).2 ⟨((IntKind.wrap .i64 (a5Q + 1)), (IntKind.wrap .i64 (F7 + aa))), ab, rfl, rfl, ac, (hm2 _ _ h).1⟩
   ·exact hx1 _ _ (hj1 a5Q H _ I h)
def a2K (x0 : b9) (x1 : ByteArray) (x2 : Bool) (H : Hp) (K : b9 → Hp → Prop) : Prop :=
 ((!x2) = true →
 K (b9.mk (x0.fok && (decide (x1 = ⟨#[]⟩))) x0.fnames) H) ∧
 ((!x2) = false →
 TG (x0.fnames = true) (a2t x1 H) false H (fun (a : Bool) (b : Hp) =>
 K (b9.mk x0.fok (x0.fnames && a)) b))
theorem a9e (x0 x1 x2) {H K} (h : a2K x0 x1 x2 H K) : T4 x0 x1 x2 H K := by
 intro g0
 refine Ct.of fun w0 w ps0 H0 R E I hR => d1W ?_
 unfold a2K at h
 unfold F48
 refine a8 (G3 _) ?_
 refine m5 h (fun _ h => ?_) (fun _ h => ?_)
 ·refine a8 (m3 _) (a8 K5 (b6 (l1 Tryz.isAgg4 I rfl) ?_))
  simp only [t8]
  refine a8 (Pu.g fun a => by simp only [g7 a]; exact (Q3 _ _ _ _ _)) ?_
  refine a8 (v7 _ _) (a8 (m3 _) (a8 K5 ?_))
  refine o4 I Tryz.sizeOf4 (vs := [(vB (x0.fok && (decide (x1 = ⟨#[]⟩))))]) (cs' := [(vB (x0.fok && (decide (x1 = ⟨#[]⟩)))), (vB x0.fnames)]) rfl rfl (nb rfl) rfl rfl fun o m p => ?_
  exact hR _ H _ _ m ⟨(b9.mk (x0.fok && (decide (x1 = ⟨#[]⟩))) x0.fnames), rfl, rfl, h⟩
 ·refine a8 (m3 _) (a8 b2l (b6 (l1 Tryz.isAgg4 I rfl) ?_))
  simp only [t8]
  refine a0i (D := fun j e => ∃ (b : Bool) (c : Hp) , j = (gv x0.fnames true (vB b)) ∧ (Inv w0 ps0 H0 c [bx g0 111 (p7 x0)] e) ∧ (∀ i, i < w.heap.size → ¬ inF [] i → e.heap[i]? = w.heap[i]?) ∧ Hle H c ∧ (K (b9.mk x0.fok (x0.fnames && b)) c)) (fun d => ?_) (fun d => ?_) ?_
  ·replace h := h.1 d
   have a := d
   simp only [g7 a]
   refine i6 Tryz.call86 h I ?_
   rintro _ c _ e f k l ⟨b, rfl, rfl, h⟩
   exact ⟨b, c, by rfl, f, l, k, h⟩
  ·exact ⟨false, H, by rw [a3E d], I, fun _ _ _ => rfl, Hle.refl _, h.2 d⟩
  ·clear h
   rintro j e ⟨b, c, rfl, f, l, k, h⟩
   refine a8 (v7 _ _) (a8 (m3 _) (a8 b2l ?_))
   refine o4 f Tryz.sizeOf4 (vs := [(vB (x0.fnames && b))]) (cs' := [(vB x0.fok), (vB (x0.fnames && b))]) rfl rfl (nb rfl) rfl rfl fun q n r => ?_
   exact hR _ c _ _ n ⟨(b9.mk x0.fok (x0.fnames && b)), rfl, rfl, h⟩
def X2 (a : m2) (A8 : Int) (a0S : b9) (H : Hp) (n2 : (Int × b9) → Hp → Prop) (K : b9 → Hp → Prop) : Prop :=
 (((decide (A8 < (a.z8.n : Int))) && a0S.fok) = true →
 (0 : Int) ≤ A8 ∧ (A8 : Int) < a.z8.n ∧ ∃ b : m2, EltH H a.z8 A8 4 (f4 b) ∧
 T5 a0S b H (fun c d =>
 n2 ((IntKind.wrap .i64 (A8 + 1)), c) d)) ∧
 (((decide (A8 < (a.z8.n : Int))) && a0S.fok) = false →
 K a0S H)
def E3 (u5 : Int) (a : m2) (P7 : b9) (H : Hp) (K : b9 → Hp → Prop) : Prop :=
 T4 P7 a.d9 ((decide (a.b7 = 2)) || (decide (a.b7 = 4))) H (fun b c =>
 TL ((0, (b9.mk ((b.fok && (decide ((a.z8.n : Int) = u5))) && ((decide (a.C9 = 0)) || ((decide (a.b7 = 1)) && (decide (0 < a.C9))))) b.fnames)) : Int × b9) c fun (s : Int × b9) H n2 => X2 a s.1 s.2 H n2 K)
def B4 (d5w : Int) (b4S : Bool) (a : m2) (c7F : b9) (H : Hp) (K : b9 → Hp → Prop) : Prop :=
 (b4S = true →
 E3 2 a c7F H K) ∧
 (b4S = false →
 E3 d5w a (b9.mk false c7F.fnames) H K)
def N0 (c0D : Int) (a9z : Int) (b4T : Bool) (a : m2) (a7i : b9) (H : Hp) (K : b9 → Hp → Prop) : Prop :=
 (b4T = true →
 E3 1 a a7i H K) ∧
 (b4T = false →
 (a9z = 6 →
 B4 c0D (decide (a9z = 6)) a a7i H K) ∧
 (¬ (a9z = 6) →
 (a9z = 7 →
 B4 c0D (decide (a9z = 7)) a a7i H K) ∧
 (¬ (a9z = 7) →
 (a9z = 8 →
 B4 c0D (decide (a9z = 8)) a a7i H K) ∧
 (¬ (a9z = 8) →
 (a9z = 9 →
 B4 c0D (decide (a9z = 9)) a a7i H K) ∧
 (¬ (a9z = 9) →
 B4 c0D (decide (a9z = 10)) a a7i H K)))))
def K4 (b5H : Int) (b7M : Int) (b2e : Bool) (a : m2) (a2i : b9) (H : Hp) (K : b9 → Hp → Prop) : Prop :=
 (b2e = true →
 E3 b5H a a2i H K) ∧
 (b2e = false →
 (b7M = 4 →
 N0 b5H b7M (decide (b7M = 4)) a a2i H K) ∧
 (¬ (b7M = 4) →
 N0 b5H b7M (decide (b7M = 5)) a a2i H K))
def a2L (x0 : b9) (x1 : m2) (H : Hp) (K : b9 → Hp → Prop) : Prop :=
 (x1.b7 = 1 →
 K4 0 x1.b7 (decide (x1.b7 = 1)) x1 x0 H K) ∧
 (¬ (x1.b7 = 1) →
 (x1.b7 = 2 →
 K4 0 x1.b7 (decide (x1.b7 = 2)) x1 x0 H K) ∧
 (¬ (x1.b7 = 2) →
 K4 0 x1.b7 (decide (x1.b7 = 3)) x1 x0 H K))
theorem a9f (x0 x1) {H K} (h : a2L x0 x1 H K) : T5 x0 x1 H K := by
 intro g0
 refine Ct.of fun w0 w ps0 H0 R E I hR => d2b ?_
 unfold a2L at h
 unfold F88
 refine F0 I (cs := (f4 x1)) rfl fun k aj p ak => ?_
 have hj1 : ∀ (u5 : Int) (P7 : b9) H w (_ : Inv w0 ps0 H0 H [bx k 53 (f4 x1), bx g0 111 (p7 P7)] w) (_ : E3 u5 x1 P7 H K), c0z (Value.pointer (some ⟨g0, 0, none⟩)) (Value.pointer (some ⟨k, 0, none⟩)) (vi u5) w R E := by
  intro u5 P7 H w I h
  unfold c0z
  intro _
  unfold E3 at h
  refine a8 a3q (b6 (l1 Tryz.isAgg9 I rfl) (a8 K8 (b6 (l1 Tryz.isAgg3 I rfl) (a8 pEq ?_))))
  refine a8 (Pu.g fun c => by exact K8) ?_
  refine b6 (Ld.g fun c => by simp only [g7 c]; exact (l1 Tryz.isAgg3 I rfl)) ?_
  refine a8 (Pu.g fun c => by simp only [g7 c]; exact pEq) ?_
  refine a8 (E8 _ _) ?_
  refine i6 Tryz.call48 (h g0) (I.bring 1) ?_
  rintro _ u _ al i _ _ ⟨m, rfl, rfl, h⟩
  refine a8 (m3 _) (a8 K5 (b6 (l1 Tryz.isAgg4 i rfl) ?_))
  refine a8 (Pu.g fun c => by exact P5) ?_
  refine b6 (Ld.g fun c => by simp only [g7 c]; exact (l1 Tryz.isAgg51 (i.bring 1) rfl)) ?_
  refine a8 (Pu.g fun c => by simp only [g7 c]; exact (P9 _ _ _)) ?_
  simp only [t8]
  refine a8 (Pu.g fun c => by simp only [g7 c]; exact pEq) ?_
  refine a8 (v7 _ _) ?_
  refine a8 (Pu.g fun c => by exact a5v) ?_
  refine b6 (Ld.g fun c => by simp only [g7 c]; exact (l1 Tryz.isAgg2 (i.bring 1) rfl)) ?_
  refine a8 (Pu.g fun c => by simp only [g7 c]; exact pEq) ?_
  simp only [t8, a5t, b9w]
  refine a8 (Pu.e (a2W _ _ _) (Pu.g fun hb => by obtain ⟨c, d⟩ := a4K hb; exact K8)) ?_
  refine b6 (Ld.e (a2W _ _ _) (Ld.g fun hb => by obtain ⟨c, d⟩ := a4K hb; simp only [g7 hb]; exact (l1 Tryz.isAgg3 (i.bring 1) rfl))) ?_
  refine a8 (Pu.e (a2W _ _ _) (Pu.g fun hb => by obtain ⟨c, d⟩ := a4K hb; simp only [g7 hb]; exact pEq)) ?_
  simp only [a5t]
  refine a8 (Pu.e (b7b _ _ _) (Pu.g fun hb => by obtain ⟨j, f⟩ := c3j hb; obtain ⟨c, d⟩ := a4K j; exact a5v)) ?_
  refine b6 (Ld.e (b7b _ _ _) (Ld.g fun hb => by obtain ⟨j, f⟩ := c3j hb; obtain ⟨c, d⟩ := a4K j; simp only [g7 hb]; exact (l1 Tryz.isAgg2 (i.bring 1) rfl))) ?_
  refine a8 (Pu.e (b7b _ _ _) (Pu.g fun hb => by obtain ⟨j, f⟩ := c3j hb; obtain ⟨c, d⟩ := a4K j; simp only [g7 hb]; exact pGt)) ?_
  refine a8 (Pu.e (a2W _ _ _) (Pu.g fun hb => by obtain ⟨c, d⟩ := a4K hb; simp only [g7 hb, d0P hb]; exact (v7 _ _))) ?_
  refine a8 (Pu.g fun c => by simp only [g7 c, b2E c]; exact (E8 _ _)) ?_
  refine a8 (v7 _ _) (a8 (m3 _) (a8 K5 ?_))
  refine o4 i Tryz.sizeOf4 (vs := [(vB ((m.fok && (decide ((x1.z8.n : Int) = u5))) && ((decide (x1.C9 = 0)) || ((decide (x1.b7 = 1)) && (decide (0 < x1.C9))))))]) (cs' := [(vB ((m.fok && (decide ((x1.z8.n : Int) = u5))) && ((decide (x1.C9 = 0)) || ((decide (x1.b7 = 1)) && (decide (0 < x1.C9)))))), (vB m.fnames)]) rfl rfl (nb rfl) rfl rfl fun am v an => ?_
  obtain ⟨q, o, y, z⟩ := h
  refine y7 (J := fun n l w => ∃ (s : Int × b9) (H : Hp) , n = o s ∧ l = (match s with | (A8, a0S) => [(vi A8)]) ∧ (match s with | (A8, a0S) => Inv w0 ps0 H0 H [bx g0 111 (p7 a0S), bx k 53 (f4 x1)] w) ∧ q s H) ⟨_, (0, (b9.mk ((m.fok && (decide ((x1.z8.n : Int) = u5))) && ((decide (x1.C9 = 0)) || ((decide (x1.b7 = 1)) && (decide (0 < x1.C9))))) m.fnames)), u, rfl, rfl, ((v.bring 1).bring 1), y⟩ ?_
  rintro ao ap w next2 ⟨⟨A8, a0S⟩, H, rfl, r, I, aa⟩ hn2
  dsimp only at r I
  simp only [List.map_cons, List.map_nil, List.cons.injEq, and_true] at r
  have e5 := r
  simp only [e5]
  obtain ⟨n2, hm2, h⟩ : ∃ n2 : (Int × b9) → Hp → Prop, (∀ s' H', n2 s' H' → q s' H' ∧ o s' < o (A8, a0S)) ∧ X2 x1 A8 a0S H n2 K := ⟨_, fun _ _ h => h, z (A8, a0S) H (fun s' H' => q s' H' ∧ o s' < o (A8, a0S)) aa (fun _ _ a b => ⟨a, b⟩)⟩
  unfold c5k
  unfold X2 at h
  refine a8 P5 (b6 (l1 Tryz.isAgg51 (I.bring 1) rfl) (a8 (P9 _ _ _) (a8 pLs ?_)))
  simp only [t8]
  refine a8 (Pu.g fun c => by simp only [g7 c]; exact (m3 _)) ?_
  refine a8 (Pu.g fun c => by simp only [g7 c]; exact K5) ?_
  refine b6 (Ld.g fun c => by simp only [g7 c]; exact (l1 Tryz.isAgg4 I rfl)) ?_
  refine a8 (v7 _ _) ?_
  refine m5 h (fun _ h => ?_) (fun _ h => ?_)
  ·refine a8 P5 (b6 (l1 Tryz.isAgg51 (I.bring 1) rfl) ?_)
   obtain ⟨ab, ac, ad, t, h⟩ := h
   obtain ⟨aq, ar, ae, t⟩ := t
   refine a8 (K9 ae _ _ _ _ ab ac) (b6 (ldA (vs := (f4 ad)) Tryz.isAgg53 Tryz.sizeOf53 rfl (I.atH t)) ?_)
   refine i6 Tryz.call88 (h g0) I ?_
   rintro _ af _ au ag _ _ ⟨ah, rfl, rfl, h⟩
   refine a8 pAd ?_
   exact hn2 _ _ _ (hm2 _ _ h).2 ⟨((IntKind.wrap .i64 (A8 + 1)), ah), af, rfl, rfl, ((ag.bring 1).bring 1), (hm2 _ _ h).1⟩
  ·exact hR _ H _ _ (I.bring 1).drop ⟨a0S, rfl, rfl, h⟩
 refine r5 fun j1 hx1 => ?_
 refine a8 K8 (b6 (l1 Tryz.isAgg3 p rfl) ?_)
 have hj3 : ∀ (b2e : Bool) H w (_ : Inv w0 ps0 H0 H [bx k 53 (f4 x1), bx g0 111 (p7 x0)] w) (_ : K4 0 x1.b7 b2e x1 x0 H K), c0C (Value.pointer (some ⟨g0, 0, none⟩)) (Value.pointer (some ⟨k, 0, none⟩)) (vi 0) (vi x1.b7) (vB b2e) w j1 R E := by
  intro b2e H w I h
  unfold c0C
  intro _
  unfold K4 at h
  refine m5 h (fun _ h => ?_) (fun _ h => ?_)
  ·exact hx1 _ _ (hj1 0 x0 H _ ((I.bring 1).bring 1) h)
  ·have hj4 : ∀ (b4T : Bool) H w (_ : Inv w0 ps0 H0 H [bx k 53 (f4 x1), bx g0 111 (p7 x0)] w) (_ : N0 0 x1.b7 b4T x1 x0 H K), c0B (Value.pointer (some ⟨g0, 0, none⟩)) (Value.pointer (some ⟨k, 0, none⟩)) (vi 0) (vi x1.b7) (vB b4T) w j1 R E := by
    intro b4T H w I h
    unfold c0B
    intro _
    unfold N0 at h
    refine m5 h (fun _ h => ?_) (fun _ h => ?_)
    ·exact hx1 _ _ (hj1 1 x0 H _ ((I.bring 1).bring 1) h)
    ·have hj5 : ∀ (b4S : Bool) H w (_ : Inv w0 ps0 H0 H [bx k 53 (f4 x1), bx g0 111 (p7 x0)] w) (_ : B4 0 b4S x1 x0 H K), c0A (Value.pointer (some ⟨g0, 0, none⟩)) (Value.pointer (some ⟨k, 0, none⟩)) (vi 0) (vB b4S) w j1 R E := by
      intro b4S H w I h
      unfold c0A
      intro _
      unfold B4 at h
      refine m5 h (fun _ h => ?_) (fun _ h => ?_)
      ·exact hx1 _ _ (hj1 2 x0 H _ ((I.bring 1).bring 1) h)
      ·refine a8 (m3 _) (a8 K5 ?_)
       refine o4 (I.bring 1) Tryz.sizeOf4 (vs := [(vB false)]) (cs' := [(vB false), (vB x0.fnames)]) rfl rfl (nb rfl) rfl rfl fun av ai aw => ?_
       exact hx1 _ _ (hj1 0 (b9.mk false x0.fnames) H _ (ai.bring 1) h)
     refine r5 fun j5 hx5 => ?_
     refine a8 pEq ?_
     refine f6 h (fun _ h => ?_) (fun _ h => ?_)
     ·exact hx5 _ _ (hj5 (decide (x1.b7 = 6)) H _ ((I.bring 1).bring 1) h)
     ·refine a8 pEq ?_
      refine f6 h (fun _ h => ?_) (fun _ h => ?_)
      ·exact hx5 _ _ (hj5 (decide (x1.b7 = 7)) H _ ((I.bring 1).bring 1) h)
      ·refine a8 pEq ?_
       refine f6 h (fun _ h => ?_) (fun _ h => ?_)
       ·exact hx5 _ _ (hj5 (decide (x1.b7 = 8)) H _ ((I.bring 1).bring 1) h)
       ·refine a8 pEq ?_
        refine f6 h (fun _ h => ?_) (fun _ h => ?_)
        ·exact hx5 _ _ (hj5 (decide (x1.b7 = 9)) H _ ((I.bring 1).bring 1) h)
        ·refine a8 pEq ?_
         exact hx5 _ _ (hj5 (decide (x1.b7 = 10)) H _ ((I.bring 1).bring 1) h)
   refine r5 fun j4 hx4 => ?_
   refine a8 pEq ?_
   refine f6 h (fun _ h => ?_) (fun _ h => ?_)
   ·exact hx4 _ _ (hj4 (decide (x1.b7 = 4)) H _ ((I.bring 1).bring 1) h)
   ·refine a8 pEq ?_
    exact hx4 _ _ (hj4 (decide (x1.b7 = 5)) H _ ((I.bring 1).bring 1) h)
 refine r5 fun j3 hx3 => ?_
 refine a8 pEq ?_
 refine f6 h (fun _ h => ?_) (fun _ h => ?_)
 ·exact hx3 _ _ (hj3 (decide (x1.b7 = 1)) H _ ((p.bring 1).bring 1) h)
 ·refine a8 pEq ?_
  refine f6 h (fun _ h => ?_) (fun _ h => ?_)
  ·exact hx3 _ _ (hj3 (decide (x1.b7 = 2)) H _ ((p.bring 1).bring 1) h)
  ·refine a8 pEq ?_
   exact hx3 _ _ (hj3 (decide (x1.b7 = 3)) H _ ((p.bring 1).bring 1) h)
def X3 (a : o0) (a8e : Int) (a0T : b9) (H : Hp) (n4 : (Int × b9) → Hp → Prop) (K : b9 → Hp → Prop) : Prop :=
 (((decide (a8e < (a.v8.n : Int))) && a0T.fok) = true →
 (0 : Int) ≤ a8e ∧ (a8e : Int) < a.v8.n ∧ ∃ b : o0, EltH H a.v8 a8e 4 (h9 b) ∧
 a0v a0T b H (fun c d =>
 n4 ((IntKind.wrap .i64 (a8e + 1)), c) d)) ∧
 (((decide (a8e < (a.v8.n : Int))) && a0T.fok) = false →
 K a0T H)
def X4 (a2i : b9) (a : o0) (H : Hp) (K : b9 → Hp → Prop) : Prop :=
 TL ((0, a2i) : Int × b9) H fun (s : Int × b9) H n4 => X3 a s.1 s.2 H n4 K
def X5 (a : o0) (a8f : Int) (O5 : b9) (H : Hp) (n5 : (Int × b9) → Hp → Prop) (K : b9 → Hp → Prop) : Prop :=
 (((decide (a8f < (a.m6.n : Int))) && O5.fok) = true →
 (0 : Int) ≤ a8f ∧ (a8f : Int) < a.m6.n ∧ ∃ b : m2, EltH H a.m6 a8f 4 (f4 b) ∧
 T5 O5 b H (fun c d =>
 n5 ((IntKind.wrap .i64 (a8f + 1)), c) d)) ∧
 (((decide (a8f < (a.m6.n : Int))) && O5.fok) = false →
 X4 O5 a H K)
def N1 (b3A : Int) (d5x : Int) (b4t : Bool) (a : o0) (a5H : b9) (H : Hp) (K : b9 → Hp → Prop) : Prop :=
 TL ((0, (b9.mk (((a5H.fok && b4t) && (decide ((a.m6.n : Int) = b3A))) && (decide ((a.v8.n : Int) = d5x))) a5H.fnames)) : Int × b9) H fun (s : Int × b9) H n5 => X5 a s.1 s.2 H n5 K
def B5 (u5 : Int) (U7 : Int) (a : o0) (P7 : b9) (H : Hp) (K : b9 → Hp → Prop) : Prop :=
 (a.b7 = 3 →
 N1 u5 U7 ((decide (1 ≤ a.fOp)) && (decide (a.fOp ≤ 6))) a P7 H K) ∧
 (¬ (a.b7 = 3) →
 N1 u5 U7 (decide (a.fOp = 0)) a P7 H K)
def N2 (d2h : Int) (d5y : Int) (b4U : Bool) (a : o0) (c7G : b9) (H : Hp) (K : b9 → Hp → Prop) : Prop :=
 (b4U = true →
 B5 d2h 2 a c7G H K) ∧
 (b4U = false →
 B5 d2h d5y a (b9.mk false c7G.fnames) H K)
def N3 (c3B : Int) (b7N : Int) (b2f : Int) (b4V : Bool) (a : o0) (b6z : b9) (H : Hp) (K : b9 → Hp → Prop) : Prop :=
 (b4V = true →
 B5 c3B b7N a b6z H K) ∧
 (b4V = false →
 (b2f = 3 →
 B5 2 b7N a b6z H K) ∧
 (¬ (b2f = 3) →
 (b2f = 4 →
 B5 c3B 1 a b6z H K) ∧
 (¬ (b2f = 4) →
 (b2f = 5 →
 N2 c3B b7N (decide (b2f = 5)) a b6z H K) ∧
 (¬ (b2f = 5) →
 N2 c3B b7N (decide (b2f = 6)) a b6z H K))))
def a2M (x0 : b9) (x1 : o0) (H : Hp) (K : b9 → Hp → Prop) : Prop :=
 (x1.b7 = 1 →
 N3 0 0 x1.b7 (decide (x1.b7 = 1)) x1 x0 H K) ∧
 (¬ (x1.b7 = 1) →
 N3 0 0 x1.b7 (decide (x1.b7 = 2)) x1 x0 H K)
theorem a9g (x0 x1) {H K} (h : a2M x0 x1 H K) : a0v x0 x1 H K := by
 intro g0
 refine Ct.of fun w0 w ps0 H0 R E I hR => d2a ?_
 unfold a2M at h
 unfold F87
 refine F0 I (cs := (h9 x1)) rfl fun d aq i ar => ?_
 have hj1 : ∀ (u5 : Int) (U7 : Int) (P7 : b9) H w (_ : Inv w0 ps0 H0 H [bx d 59 (h9 x1), bx g0 111 (p7 P7)] w) (_ : B5 u5 U7 x1 P7 H K), c0w (Value.pointer (some ⟨g0, 0, none⟩)) (Value.pointer (some ⟨d, 0, none⟩)) (vi u5) (vi U7) w R E := by
  intro u5 U7 P7 H w I h
  unfold c0w
  intro _
  unfold B5 at h
  refine a8 a5w (b6 (l1 Tryz.isAgg3 I rfl) (a8 pEq ?_))
  have hj2 : ∀ (b4t : Bool) H w (_ : Inv w0 ps0 H0 H [bx d 59 (h9 x1), bx g0 111 (p7 P7)] w) (_ : N1 u5 U7 b4t x1 P7 H K), c0v (Value.pointer (some ⟨g0, 0, none⟩)) (Value.pointer (some ⟨d, 0, none⟩)) (vi u5) (vi U7) (vB b4t) w R E := by
   intro b4t H w I h
   unfold c0v
   intro _
   unfold N1 at h
   refine a8 (m3 _) (a8 K5 (b6 (l1 Tryz.isAgg4 (I.bring 1) rfl) ?_))
   simp only [t8]
   refine a8 (v7 _ _) ?_
   refine a8 (Pu.g fun c => by exact a0k) ?_
   refine b6 (Ld.g fun c => by simp only [g7 c]; exact (l1 Tryz.isAgg51 I rfl)) ?_
   refine a8 (Pu.g fun c => by simp only [g7 c]; exact (P9 _ _ _)) ?_
   simp only [t8]
   refine a8 (Pu.g fun c => by simp only [g7 c]; exact pEq) ?_
   refine a8 (v7 _ _) ?_
   refine a8 (Pu.g fun c => by exact O3) ?_
   refine b6 (Ld.g fun c => by simp only [g7 c]; exact (l1 Tryz.isAgg57 I rfl)) ?_
   refine a8 (Pu.g fun c => by simp only [g7 c]; exact (a1Z _ _ _)) ?_
   simp only [t8]
   refine a8 (Pu.g fun c => by simp only [g7 c]; exact pEq) ?_
   refine a8 (v7 _ _) (a8 (m3 _) (a8 K5 ?_))
   refine o4 (I.bring 1) Tryz.sizeOf4 (vs := [(vB (((P7.fok && b4t) && (decide ((x1.m6.n : Int) = u5))) && (decide ((x1.v8.n : Int) = U7))))]) (cs' := [(vB (((P7.fok && b4t) && (decide ((x1.m6.n : Int) = u5))) && (decide ((x1.v8.n : Int) = U7)))), (vB P7.fnames)]) rfl rfl (nb rfl) rfl rfl fun au r av => ?_
   have hj3 : ∀ (a2i : b9) H w (_ : Inv w0 ps0 H0 H [bx g0 111 (p7 a2i), bx d 59 (h9 x1)] w) (_ : X4 a2i x1 H K), c0u (Value.pointer (some ⟨g0, 0, none⟩)) (Value.pointer (some ⟨d, 0, none⟩)) w R E := by
    intro a2i H w I h
    unfold c0u
    intro _
    unfold X4 at h
    obtain ⟨j, e, t, u⟩ := h
    refine y7 (J := fun n l w => ∃ (s : Int × b9) (H : Hp) , n = e s ∧ l = (match s with | (a8e, a0T) => [(vi a8e)]) ∧ (match s with | (a8e, a0T) => Inv w0 ps0 H0 H [bx g0 111 (p7 a0T), bx d 59 (h9 x1)] w) ∧ j s H) ⟨_, (0, a2i), H, rfl, rfl, ((I.bring 1).bring 1), t⟩ ?_
    rintro aw ax w next4 ⟨⟨a8e, a0T⟩, H, rfl, k, I, v⟩ hn4
    dsimp only at k I
    simp only [List.map_cons, List.map_nil, List.cons.injEq, and_true] at k
    have e8 := k
    simp only [e8]
    obtain ⟨n4, hm4, h⟩ : ∃ n4 : (Int × b9) → Hp → Prop, (∀ s' H', n4 s' H' → j s' H' ∧ e s' < e (a8e, a0T)) ∧ X3 x1 a8e a0T H n4 K := ⟨_, fun _ _ h => h, u (a8e, a0T) H (fun s' H' => j s' H' ∧ e s' < e (a8e, a0T)) v (fun _ _ a b => ⟨a, b⟩)⟩
    unfold c5i
    unfold X3 at h
    refine a8 O3 (b6 (l1 Tryz.isAgg57 (I.bring 1) rfl) (a8 (a1Z _ _ _) (a8 pLs ?_)))
    simp only [t8]
    refine a8 (Pu.g fun c => by simp only [g7 c]; exact (m3 _)) ?_
    refine a8 (Pu.g fun c => by simp only [g7 c]; exact K5) ?_
    refine b6 (Ld.g fun c => by simp only [g7 c]; exact (l1 Tryz.isAgg4 I rfl)) ?_
    refine a8 (v7 _ _) ?_
    refine m5 h (fun _ h => ?_) (fun _ h => ?_)
    ·refine a8 O3 (b6 (l1 Tryz.isAgg57 (I.bring 1) rfl) ?_)
     obtain ⟨y, z, aa, m, h⟩ := h
     obtain ⟨ay, az, ab, m⟩ := m
     refine a8 (P6 ab _ _ _ _ y z) (b6 (ldA (vs := (h9 aa)) Tryz.isAgg59 Tryz.sizeOf59 rfl (I.atH m)) ?_)
     refine i6 Tryz.call87 (h g0) I ?_
     rintro _ ac _ ba ad _ _ ⟨ae, rfl, rfl, h⟩
     refine a8 pAd ?_
     exact hn4 _ _ _ (hm4 _ _ h).2 ⟨((IntKind.wrap .i64 (a8e + 1)), ae), ac, rfl, rfl, ((ad.bring 1).bring 1), (hm4 _ _ h).1⟩
    ·exact hR _ H _ _ (I.bring 1).drop ⟨a0T, rfl, rfl, h⟩
   refine r5 fun j3 hx3 => ?_
   obtain ⟨o, f, af, ag⟩ := h
   refine y7 (J := fun n l w => ∃ (s : Int × b9) (H : Hp) , n = f s ∧ l = (match s with | (a8f, O5) => [(vi a8f)]) ∧ (match s with | (a8f, O5) => Inv w0 ps0 H0 H [bx g0 111 (p7 O5), bx d 59 (h9 x1)] w) ∧ o s H) ⟨_, (0, (b9.mk (((P7.fok && b4t) && (decide ((x1.m6.n : Int) = u5))) && (decide ((x1.v8.n : Int) = U7))) P7.fnames)), H, rfl, rfl, ((r.bring 1).bring 1), af⟩ ?_
   rintro bb bc w next5 ⟨⟨a8f, O5⟩, H, rfl, p, I, ah⟩ hn5
   dsimp only at p I
   simp only [List.map_cons, List.map_nil, List.cons.injEq, and_true] at p
   have e7 := p
   simp only [e7]
   obtain ⟨n5, hm5, h⟩ : ∃ n5 : (Int × b9) → Hp → Prop, (∀ s' H', n5 s' H' → o s' H' ∧ f s' < f (a8f, O5)) ∧ X5 x1 a8f O5 H n5 K := ⟨_, fun _ _ h => h, ag (a8f, O5) H (fun s' H' => o s' H' ∧ f s' < f (a8f, O5)) ah (fun _ _ a b => ⟨a, b⟩)⟩
   unfold c5j
   unfold X5 at h
   refine a8 a0k (b6 (l1 Tryz.isAgg51 (I.bring 1) rfl) (a8 (P9 _ _ _) (a8 pLs ?_)))
   simp only [t8]
   refine a8 (Pu.g fun c => by simp only [g7 c]; exact (m3 _)) ?_
   refine a8 (Pu.g fun c => by simp only [g7 c]; exact K5) ?_
   refine b6 (Ld.g fun c => by simp only [g7 c]; exact (l1 Tryz.isAgg4 I rfl)) ?_
   refine a8 (v7 _ _) ?_
   refine m5 h (fun _ h => ?_) (fun _ h => ?_)
   ·refine a8 a0k (b6 (l1 Tryz.isAgg51 (I.bring 1) rfl) ?_)
    obtain ⟨ai, aj, ak, q, h⟩ := h
    obtain ⟨bd, be, al, q⟩ := q
    refine a8 (K9 al _ _ _ _ ai aj) (b6 (ldA (vs := (f4 ak)) Tryz.isAgg53 Tryz.sizeOf53 rfl (I.atH q)) ?_)
    refine i6 Tryz.call88 (h g0) I ?_
    rintro _ am _ bf an _ _ ⟨ao, rfl, rfl, h⟩
    refine a8 pAd ?_
    exact hn5 _ _ _ (hm5 _ _ h).2 ⟨((IntKind.wrap .i64 (a8f + 1)), ao), am, rfl, rfl, ((an.bring 1).bring 1), (hm5 _ _ h).1⟩
   ·exact hx3 _ _ (hj3 O5 H _ ((I.bring 1).bring 1) h)
  refine r5 fun j2 hx2 => ?_
  refine a8 a5Z (b6 (l1 Tryz.isAgg3 I rfl) (a8 pEq ?_))
  refine f6 h (fun _ h => ?_) (fun _ h => ?_)
  ·refine a8 a5w (b6 (l1 Tryz.isAgg3 I rfl) (a8 pGe ?_))
   refine a8 (Pu.g fun c => by exact a5w) ?_
   refine b6 (Ld.g fun c => by simp only [g7 c]; exact (l1 Tryz.isAgg3 I rfl)) ?_
   refine a8 (Pu.g fun c => by simp only [g7 c]; exact pLe) ?_
   refine a8 (v7 _ _) ?_
   exact hx2 _ _ (hj2 ((decide (1 ≤ x1.fOp)) && (decide (x1.fOp ≤ 6))) H _ ((I.bring 1).bring 1) h)
  ·exact hx2 _ _ (hj2 (decide (x1.fOp = 0)) H _ ((I.bring 1).bring 1) h)
 refine r5 fun j1 hx1 => ?_
 refine a8 a5Z (b6 (l1 Tryz.isAgg3 i rfl) ?_)
 have hj6 : ∀ (b4V : Bool) H w (_ : Inv w0 ps0 H0 H [bx d 59 (h9 x1), bx g0 111 (p7 x0)] w) (_ : N3 0 0 x1.b7 b4V x1 x0 H K), c0y (Value.pointer (some ⟨g0, 0, none⟩)) (Value.pointer (some ⟨d, 0, none⟩)) (vi 0) (vi 0) (vi x1.b7) (vB b4V) w j1 R E := by
  intro b4V H w I h
  unfold c0y
  intro _
  unfold N3 at h
  refine m5 h (fun _ h => ?_) (fun _ h => ?_)
  ·exact hx1 _ _ (hj1 0 0 x0 H _ ((I.bring 1).bring 1) h)
  ·refine a8 pEq ?_
   refine f6 h (fun _ h => ?_) (fun _ h => ?_)
   ·exact hx1 _ _ (hj1 2 0 x0 H _ ((I.bring 1).bring 1) h)
   ·refine a8 pEq ?_
    refine f6 h (fun _ h => ?_) (fun _ h => ?_)
    ·exact hx1 _ _ (hj1 0 1 x0 H _ ((I.bring 1).bring 1) h)
    ·have hj7 : ∀ (b4U : Bool) H w (_ : Inv w0 ps0 H0 H [bx d 59 (h9 x1), bx g0 111 (p7 x0)] w) (_ : N2 0 0 b4U x1 x0 H K), c0x (Value.pointer (some ⟨g0, 0, none⟩)) (Value.pointer (some ⟨d, 0, none⟩)) (vi 0) (vi 0) (vB b4U) w j1 R E := by
      intro b4U H w I h
      unfold c0x
      intro _
      unfold N2 at h
      refine m5 h (fun _ h => ?_) (fun _ h => ?_)
      ·exact hx1 _ _ (hj1 0 2 x0 H _ ((I.bring 1).bring 1) h)
      ·refine a8 (m3 _) (a8 K5 ?_)
       refine o4 (I.bring 1) Tryz.sizeOf4 (vs := [(vB false)]) (cs' := [(vB false), (vB x0.fnames)]) rfl rfl (nb rfl) rfl rfl fun bg ap bh => ?_
       exact hx1 _ _ (hj1 0 0 (b9.mk false x0.fnames) H _ (ap.bring 1) h)
     refine r5 fun j7 hx7 => ?_
     refine a8 pEq ?_
     refine f6 h (fun _ h => ?_) (fun _ h => ?_)
     ·exact hx7 _ _ (hj7 (decide (x1.b7 = 5)) H _ ((I.bring 1).bring 1) h)
     ·refine a8 pEq ?_
      exact hx7 _ _ (hj7 (decide (x1.b7 = 6)) H _ ((I.bring 1).bring 1) h)
 refine r5 fun j6 hx6 => ?_
 refine a8 pEq ?_
 refine f6 h (fun _ h => ?_) (fun _ h => ?_)
 ·exact hx6 _ _ (hj6 (decide (x1.b7 = 1)) H _ ((i.bring 1).bring 1) h)
 ·refine a8 pEq ?_
  exact hx6 _ _ (hj6 (decide (x1.b7 = 2)) H _ ((i.bring 1).bring 1) h)
def X6 (a : m7) (a8g : Int) (O5 : b9) (H : Hp) (n5 : (Int × b9) → Hp → Prop) (K : b9 → Hp → Prop) : Prop :=
 (((decide (a8g < (a.L0.n : Int))) && O5.fok) = true →
 (0 : Int) ≤ a8g ∧ (a8g : Int) < a.L0.n ∧ ∃ b : m7, EltH H a.L0 a8g 6 (f8 b) ∧
 T6 O5 b H (fun c d =>
 n5 ((IntKind.wrap .i64 (a8g + 1)), c) d)) ∧
 (((decide (a8g < (a.L0.n : Int))) && O5.fok) = false →
 K O5 H)
def X7 (a7i : b9) (a : m7) (H : Hp) (K : b9 → Hp → Prop) : Prop :=
 TL ((0, a7i) : Int × b9) H fun (s : Int × b9) H n5 => X6 a s.1 s.2 H n5 K
def X8 (a : m7) (a8h : Int) (a0U : b9) (H : Hp) (n6 : (Int × b9) → Hp → Prop) (K : b9 → Hp → Prop) : Prop :=
 (((decide (a8h < (a.K7.n : Int))) && a0U.fok) = true →
 (0 : Int) ≤ a8h ∧ (a8h : Int) < a.K7.n ∧ ∃ b : m7, EltH H a.K7 a8h 6 (f8 b) ∧
 T6 a0U b H (fun c d =>
 n6 ((IntKind.wrap .i64 (a8h + 1)), c) d)) ∧
 (((decide (a8h < (a.K7.n : Int))) && a0U.fok) = false →
 X7 a0U a H K)
def X9 (a2i : b9) (a : m7) (H : Hp) (K : b9 → Hp → Prop) : Prop :=
 TL ((0, a2i) : Int × b9) H fun (s : Int × b9) H n6 => X8 a s.1 s.2 H n6 K
def Y0 (a : m7) (a8i : Int) (a0V : b9) (H : Hp) (n7 : (Int × b9) → Hp → Prop) (K : b9 → Hp → Prop) : Prop :=
 (((decide (a8i < (a.m6.n : Int))) && a0V.fok) = true →
 (0 : Int) ≤ a8i ∧ (a8i : Int) < a.m6.n ∧ ∃ b : m2, EltH H a.m6 a8i 4 (f4 b) ∧
 T5 a0V b H (fun c d =>
 n7 ((IntKind.wrap .i64 (a8i + 1)), c) d)) ∧
 (((decide (a8i < (a.m6.n : Int))) && a0V.fok) = false →
 X9 a0V a H K)
def Y1 (a5H : b9) (a : m7) (H : Hp) (K : b9 → Hp → Prop) : Prop :=
 TL ((0, a5H) : Int × b9) H fun (s : Int × b9) H n7 => Y0 a s.1 s.2 H n7 K
def Y2 (a : m7) (a8j : Int) (a7j : b9) (H : Hp) (n8 : (Int × b9) → Hp → Prop) (K : b9 → Hp → Prop) : Prop :=
 (((decide (a8j < (a.y6.n : Int))) && a7j.fok) = true →
 (0 : Int) ≤ a8j ∧ (a8j : Int) < a.y6.n ∧ ∃ b : o0, EltH H a.y6 a8j 4 (h9 b) ∧
 a0v a7j b H (fun c d =>
 n8 ((IntKind.wrap .i64 (a8j + 1)), c) d)) ∧
 (((decide (a8j < (a.y6.n : Int))) && a7j.fok) = false →
 Y1 a7j a H K)
def B6 (u5 : Int) (U7 : Int) (a : m7) (P7 : b9) (H : Hp) (K : b9 → Hp → Prop) : Prop :=
 T4 P7 a.d9 ((decide (a.b7 = 1)) || (decide (a.b7 = 2))) H (fun b c =>
 TL ((0, (b9.mk ((((b.fok && (decide ((a.m6.n : Int) = u5))) && (decide ((a.y6.n : Int) = U7))) && (((decide ((a.K7.n : Int) = 0)) || (decide (a.b7 = 3))) || (decide (a.b7 = 4)))) && ((decide ((a.L0.n : Int) = 0)) || (decide (a.b7 = 3)))) b.fnames)) : Int × b9) c fun (s : Int × b9) H n8 => Y2 a s.1 s.2 H n8 K)
def E4 (c6I : Int) (d2i : Int) (c7H : Int) (b4W : Bool) (a : m7) (c3C : b9) (H : Hp) (K : b9 → Hp → Prop) : Prop :=
 (b4W = true →
 B6 c6I 1 a c3C H K) ∧
 (b4W = false →
 (c7H = 7 →
 B6 c6I d2i a c3C H K) ∧
 (¬ (c7H = 7) →
 B6 c6I d2i a (b9.mk false c3C.fnames) H K))
def a2N (x0 : b9) (x1 : m7) (H : Hp) (K : b9 → Hp → Prop) : Prop :=
 (x1.b7 = 1 →
 B6 1 0 x1 x0 H K) ∧
 (¬ (x1.b7 = 1) →
 (x1.b7 = 2 →
 B6 2 0 x1 x0 H K) ∧
 (¬ (x1.b7 = 2) →
 (x1.b7 = 3 →
 E4 0 0 x1.b7 (decide (x1.b7 = 3)) x1 x0 H K) ∧
 (¬ (x1.b7 = 3) →
 (x1.b7 = 4 →
 E4 0 0 x1.b7 (decide (x1.b7 = 4)) x1 x0 H K) ∧
 (¬ (x1.b7 = 4) →
 (x1.b7 = 5 →
 E4 0 0 x1.b7 (decide (x1.b7 = 5)) x1 x0 H K) ∧
 (¬ (x1.b7 = 5) →
 E4 0 0 x1.b7 (decide (x1.b7 = 6)) x1 x0 H K)))))
theorem a9h (x0 x1) {H K} (h : a2N x0 x1 H K) : T6 x0 x1 H K := by
 intro g0
 refine Ct.of fun w0 w ps0 H0 R E I hR => d1X ?_
 unfold a2N at h
 unfold F49
 refine F0 I (cs := (f8 x1)) rfl fun i cb j cc => ?_
 have hj1 : ∀ (u5 : Int) (U7 : Int) (P7 : b9) H w (_ : Inv w0 ps0 H0 H [bx i 73 (f8 x1), bx g0 111 (p7 P7)] w) (_ : B6 u5 U7 x1 P7 H K), c0r (Value.pointer (some ⟨g0, 0, none⟩)) (Value.pointer (some ⟨i, 0, none⟩)) (vi u5) (vi U7) w R E := by
  intro u5 U7 P7 H w I h
  unfold c0r
  intro _
  unfold B6 at h
  refine a8 a1P (b6 (l1 Tryz.isAgg9 I rfl) (a8 V6 (b6 (l1 Tryz.isAgg3 I rfl) (a8 pEq ?_))))
  refine a8 (Pu.g fun c => by exact V6) ?_
  refine b6 (Ld.g fun c => by simp only [g7 c]; exact (l1 Tryz.isAgg3 I rfl)) ?_
  refine a8 (Pu.g fun c => by simp only [g7 c]; exact pEq) ?_
  refine a8 (E8 _ _) ?_
  refine i6 Tryz.call48 (h g0) (I.bring 1) ?_
  rintro _ ag _ cd f _ _ ⟨k, rfl, rfl, h⟩
  refine a8 (m3 _) (a8 K5 (b6 (l1 Tryz.isAgg4 f rfl) ?_))
  refine a8 (Pu.g fun c => by exact V8) ?_
  refine b6 (Ld.g fun c => by simp only [g7 c]; exact (l1 Tryz.isAgg51 (f.bring 1) rfl)) ?_
  refine a8 (Pu.g fun c => by simp only [g7 c]; exact (P9 _ _ _)) ?_
  simp only [t8]
  refine a8 (Pu.g fun c => by simp only [g7 c]; exact pEq) ?_
  refine a8 (v7 _ _) ?_
  refine a8 (Pu.g fun c => by exact V7) ?_
  refine b6 (Ld.g fun c => by simp only [g7 c]; exact (l1 Tryz.isAgg57 (f.bring 1) rfl)) ?_
  refine a8 (Pu.g fun c => by simp only [g7 c]; exact (a1Z _ _ _)) ?_
  simp only [t8]
  refine a8 (Pu.g fun c => by simp only [g7 c]; exact pEq) ?_
  refine a8 (v7 _ _) ?_
  refine a8 (Pu.g fun c => by exact a0O) ?_
  refine b6 (Ld.g fun c => by simp only [g7 c]; exact (l1 Tryz.isAgg23 (f.bring 1) rfl)) ?_
  refine a8 (Pu.g fun c => by simp only [g7 c]; exact (a0h _ _ _)) ?_
  refine a8 (Pu.g fun c => by simp only [g7 c]; exact pEq) ?_
  simp only [t8, a5t]
  refine a8 (Pu.e (a2W _ _ _) (Pu.g fun hb => by obtain ⟨c, d⟩ := a4K hb; exact V6)) ?_
  refine b6 (Ld.e (a2W _ _ _) (Ld.g fun hb => by obtain ⟨c, d⟩ := a4K hb; simp only [g7 hb]; exact (l1 Tryz.isAgg3 (f.bring 1) rfl))) ?_
  refine a8 (Pu.e (a2W _ _ _) (Pu.g fun hb => by obtain ⟨c, d⟩ := a4K hb; simp only [g7 hb]; exact pEq)) ?_
  refine a8 (Pu.g fun c => by simp only [g7 c, b2E c]; exact (E8 _ _)) ?_
  simp only [a5t]
  refine a8 (Pu.e (a2W _ _ _) (Pu.g fun hb => by obtain ⟨c, d⟩ := a4K hb; exact V6)) ?_
  refine b6 (Ld.e (a2W _ _ _) (Ld.g fun hb => by obtain ⟨c, d⟩ := a4K hb; simp only [g7 hb]; exact (l1 Tryz.isAgg3 (f.bring 1) rfl))) ?_
  refine a8 (Pu.e (a2W _ _ _) (Pu.g fun hb => by obtain ⟨c, d⟩ := a4K hb; simp only [g7 hb]; exact pEq)) ?_
  refine a8 (Pu.g fun c => by simp only [g7 c, b2E c]; exact (E8 _ _)) ?_
  refine a8 (v7 _ _) ?_
  refine a8 (Pu.g fun c => by exact a1Q) ?_
  refine b6 (Ld.g fun c => by simp only [g7 c]; exact (l1 Tryz.isAgg23 (f.bring 1) rfl)) ?_
  refine a8 (Pu.g fun c => by simp only [g7 c]; exact (a0h _ _ _)) ?_
  refine a8 (Pu.g fun c => by simp only [g7 c]; exact pEq) ?_
  simp only [t8, a5t]
  refine a8 (Pu.e (a2W _ _ _) (Pu.g fun hb => by obtain ⟨c, d⟩ := a4K hb; exact V6)) ?_
  refine b6 (Ld.e (a2W _ _ _) (Ld.g fun hb => by obtain ⟨c, d⟩ := a4K hb; simp only [g7 hb]; exact (l1 Tryz.isAgg3 (f.bring 1) rfl))) ?_
  refine a8 (Pu.e (a2W _ _ _) (Pu.g fun hb => by obtain ⟨c, d⟩ := a4K hb; simp only [g7 hb]; exact pEq)) ?_
  refine a8 (Pu.g fun c => by simp only [g7 c, b2E c]; exact (E8 _ _)) ?_
  refine a8 (v7 _ _) (a8 (m3 _) (a8 K5 ?_))
  refine o4 f Tryz.sizeOf4 (vs := [(vB ((((k.fok && (decide ((x1.m6.n : Int) = u5))) && (decide ((x1.y6.n : Int) = U7))) && (((decide ((x1.K7.n : Int) = 0)) || (decide (x1.b7 = 3))) || (decide (x1.b7 = 4)))) && ((decide ((x1.L0.n : Int) = 0)) || (decide (x1.b7 = 3)))))]) (cs' := [(vB ((((k.fok && (decide ((x1.m6.n : Int) = u5))) && (decide ((x1.y6.n : Int) = U7))) && (((decide ((x1.K7.n : Int) = 0)) || (decide (x1.b7 = 3))) || (decide (x1.b7 = 4)))) && ((decide ((x1.L0.n : Int) = 0)) || (decide (x1.b7 = 3))))), (vB k.fnames)]) rfl rfl (nb rfl) rfl rfl fun ce ah cf => ?_
  have hj2 : ∀ (a5H : b9) H w (_ : Inv w0 ps0 H0 H [bx g0 111 (p7 a5H), bx i 73 (f8 x1)] w) (_ : Y1 a5H x1 H K), c0q (Value.pointer (some ⟨g0, 0, none⟩)) (Value.pointer (some ⟨i, 0, none⟩)) w R E := by
   intro a5H H w I h
   unfold c0q
   intro _
   unfold Y1 at h
   have hj3 : ∀ (a2i : b9) H w (_ : Inv w0 ps0 H0 H [bx g0 111 (p7 a2i), bx i 73 (f8 x1)] w) (_ : X9 a2i x1 H K), c0p (Value.pointer (some ⟨g0, 0, none⟩)) (Value.pointer (some ⟨i, 0, none⟩)) w R E := by
    intro a2i H w I h
    unfold c0p
    intro _
    unfold X9 at h
    have hj4 : ∀ (a7i : b9) H w (_ : Inv w0 ps0 H0 H [bx g0 111 (p7 a7i), bx i 73 (f8 x1)] w) (_ : X7 a7i x1 H K), c0o (Value.pointer (some ⟨g0, 0, none⟩)) (Value.pointer (some ⟨i, 0, none⟩)) w R E := by
     intro a7i H w I h
     unfold c0o
     intro _
     unfold X7 at h
     obtain ⟨r, m, ai, aj⟩ := h
     refine y7 (J := fun n l w => ∃ (s : Int × b9) (H : Hp) , n = m s ∧ l = (match s with | (a8g, O5) => [(vi a8g)]) ∧ (match s with | (a8g, O5) => Inv w0 ps0 H0 H [bx g0 111 (p7 O5), bx i 73 (f8 x1)] w) ∧ r s H) ⟨_, (0, a7i), H, rfl, rfl, ((I.bring 1).bring 1), ai⟩ ?_
     rintro cg ch w next5 ⟨⟨a8g, O5⟩, H, rfl, t, I, ak⟩ hn5
     dsimp only at t I
     simp only [List.map_cons, List.map_nil, List.cons.injEq, and_true] at t
     have e9 := t
     simp only [e9]
     obtain ⟨n5, hm5, h⟩ : ∃ n5 : (Int × b9) → Hp → Prop, (∀ s' H', n5 s' H' → r s' H' ∧ m s' < m (a8g, O5)) ∧ X6 x1 a8g O5 H n5 K := ⟨_, fun _ _ h => h, aj (a8g, O5) H (fun s' H' => r s' H' ∧ m s' < m (a8g, O5)) ak (fun _ _ a b => ⟨a, b⟩)⟩
     unfold c5d
     unfold X6 at h
     refine a8 a1Q (b6 (l1 Tryz.isAgg23 (I.bring 1) rfl) (a8 (a0h _ _ _) (a8 pLs ?_)))
     simp only [t8]
     refine a8 (Pu.g fun c => by simp only [g7 c]; exact (m3 _)) ?_
     refine a8 (Pu.g fun c => by simp only [g7 c]; exact K5) ?_
     refine b6 (Ld.g fun c => by simp only [g7 c]; exact (l1 Tryz.isAgg4 I rfl)) ?_
     refine a8 (v7 _ _) ?_
     refine m5 h (fun _ h => ?_) (fun _ h => ?_)
     ·refine a8 a1Q (b6 (l1 Tryz.isAgg23 (I.bring 1) rfl) ?_)
      obtain ⟨al, am, an, u, h⟩ := h
      obtain ⟨ci, cj, ao, u⟩ := u
      refine a8 (a4s ao _ _ _ _ al am) (b6 (ldA (vs := (f8 an)) Tryz.isAgg73 Tryz.sizeOf73 rfl (I.atH u)) ?_)
      refine i6 Tryz.call49 (h g0) I ?_
      rintro _ ap _ ck aq _ _ ⟨ar, rfl, rfl, h⟩
      refine a8 pAd ?_
      exact hn5 _ _ _ (hm5 _ _ h).2 ⟨((IntKind.wrap .i64 (a8g + 1)), ar), ap, rfl, rfl, ((aq.bring 1).bring 1), (hm5 _ _ h).1⟩
     ·exact hR _ H _ _ (I.bring 1).drop ⟨O5, rfl, rfl, h⟩
    refine r5 fun j4 hx4 => ?_
    obtain ⟨v, o, au, av⟩ := h
    refine y7 (J := fun n l w => ∃ (s : Int × b9) (H : Hp) , n = o s ∧ l = (match s with | (a8h, a0U) => [(vi a8h)]) ∧ (match s with | (a8h, a0U) => Inv w0 ps0 H0 H [bx g0 111 (p7 a0U), bx i 73 (f8 x1)] w) ∧ v s H) ⟨_, (0, a2i), H, rfl, rfl, ((I.bring 1).bring 1), au⟩ ?_
    rintro cl cm w next6 ⟨⟨a8h, a0U⟩, H, rfl, y, I, aw⟩ hn6
    dsimp only at y I
    simp only [List.map_cons, List.map_nil, List.cons.injEq, and_true] at y
    have e8 := y
    simp only [e8]
    obtain ⟨n6, hm6, h⟩ : ∃ n6 : (Int × b9) → Hp → Prop, (∀ s' H', n6 s' H' → v s' H' ∧ o s' < o (a8h, a0U)) ∧ X8 x1 a8h a0U H n6 K := ⟨_, fun _ _ h => h, av (a8h, a0U) H (fun s' H' => v s' H' ∧ o s' < o (a8h, a0U)) aw (fun _ _ a b => ⟨a, b⟩)⟩
    unfold c5e
    unfold X8 at h
    refine a8 a0O (b6 (l1 Tryz.isAgg23 (I.bring 1) rfl) (a8 (a0h _ _ _) (a8 pLs ?_)))
    simp only [t8]
    refine a8 (Pu.g fun c => by simp only [g7 c]; exact (m3 _)) ?_
    refine a8 (Pu.g fun c => by simp only [g7 c]; exact K5) ?_
    refine b6 (Ld.g fun c => by simp only [g7 c]; exact (l1 Tryz.isAgg4 I rfl)) ?_
    refine a8 (v7 _ _) ?_
    refine m5 h (fun _ h => ?_) (fun _ h => ?_)
    ·refine a8 a0O (b6 (l1 Tryz.isAgg23 (I.bring 1) rfl) ?_)
     obtain ⟨ax, ay, az, z, h⟩ := h
     obtain ⟨cn, co, ba, z⟩ := z
     refine a8 (a4s ba _ _ _ _ ax ay) (b6 (ldA (vs := (f8 az)) Tryz.isAgg73 Tryz.sizeOf73 rfl (I.atH z)) ?_)
     refine i6 Tryz.call49 (h g0) I ?_
     rintro _ bb _ cp bc _ _ ⟨bd, rfl, rfl, h⟩
     refine a8 pAd ?_
     exact hn6 _ _ _ (hm6 _ _ h).2 ⟨((IntKind.wrap .i64 (a8h + 1)), bd), bb, rfl, rfl, ((bc.bring 1).bring 1), (hm6 _ _ h).1⟩
    ·exact hx4 _ _ (hj4 a0U H _ ((I.bring 1).bring 1) h)
   refine r5 fun j3 hx3 => ?_
   obtain ⟨aa, p, be, bf⟩ := h
   refine y7 (J := fun n l w => ∃ (s : Int × b9) (H : Hp) , n = p s ∧ l = (match s with | (a8i, a0V) => [(vi a8i)]) ∧ (match s with | (a8i, a0V) => Inv w0 ps0 H0 H [bx g0 111 (p7 a0V), bx i 73 (f8 x1)] w) ∧ aa s H) ⟨_, (0, a5H), H, rfl, rfl, ((I.bring 1).bring 1), be⟩ ?_
   rintro cq cr w next7 ⟨⟨a8i, a0V⟩, H, rfl, ab, I, bg⟩ hn7
   dsimp only at ab I
   simp only [List.map_cons, List.map_nil, List.cons.injEq, and_true] at ab
   have e7 := ab
   simp only [e7]
   obtain ⟨n7, hm7, h⟩ : ∃ n7 : (Int × b9) → Hp → Prop, (∀ s' H', n7 s' H' → aa s' H' ∧ p s' < p (a8i, a0V)) ∧ Y0 x1 a8i a0V H n7 K := ⟨_, fun _ _ h => h, bf (a8i, a0V) H (fun s' H' => aa s' H' ∧ p s' < p (a8i, a0V)) bg (fun _ _ a b => ⟨a, b⟩)⟩
   unfold c5f
   unfold Y0 at h
   refine a8 V8 (b6 (l1 Tryz.isAgg51 (I.bring 1) rfl) (a8 (P9 _ _ _) (a8 pLs ?_)))
   simp only [t8]
   refine a8 (Pu.g fun c => by simp only [g7 c]; exact (m3 _)) ?_
   refine a8 (Pu.g fun c => by simp only [g7 c]; exact K5) ?_
   refine b6 (Ld.g fun c => by simp only [g7 c]; exact (l1 Tryz.isAgg4 I rfl)) ?_
   refine a8 (v7 _ _) ?_
   refine m5 h (fun _ h => ?_) (fun _ h => ?_)
   ·refine a8 V8 (b6 (l1 Tryz.isAgg51 (I.bring 1) rfl) ?_)
    obtain ⟨bh, bi, bj, ac, h⟩ := h
    obtain ⟨ct, cu, bk, ac⟩ := ac
    refine a8 (K9 bk _ _ _ _ bh bi) (b6 (ldA (vs := (f4 bj)) Tryz.isAgg53 Tryz.sizeOf53 rfl (I.atH ac)) ?_)
    refine i6 Tryz.call88 (h g0) I ?_
    rintro _ bl _ cv bm _ _ ⟨bn, rfl, rfl, h⟩
    refine a8 pAd ?_
    exact hn7 _ _ _ (hm7 _ _ h).2 ⟨((IntKind.wrap .i64 (a8i + 1)), bn), bl, rfl, rfl, ((bm.bring 1).bring 1), (hm7 _ _ h).1⟩
   ·exact hx3 _ _ (hj3 a0V H _ ((I.bring 1).bring 1) h)
  refine r5 fun j2 hx2 => ?_
  obtain ⟨ad, q, bo, bp⟩ := h
  refine y7 (J := fun n l w => ∃ (s : Int × b9) (H : Hp) , n = q s ∧ l = (match s with | (a8j, a7j) => [(vi a8j)]) ∧ (match s with | (a8j, a7j) => Inv w0 ps0 H0 H [bx g0 111 (p7 a7j), bx i 73 (f8 x1)] w) ∧ ad s H) ⟨_, (0, (b9.mk ((((k.fok && (decide ((x1.m6.n : Int) = u5))) && (decide ((x1.y6.n : Int) = U7))) && (((decide ((x1.K7.n : Int) = 0)) || (decide (x1.b7 = 3))) || (decide (x1.b7 = 4)))) && ((decide ((x1.L0.n : Int) = 0)) || (decide (x1.b7 = 3)))) k.fnames)), ag, rfl, rfl, ((ah.bring 1).bring 1), bo⟩ ?_
  rintro cw cx w next8 ⟨⟨a8j, a7j⟩, H, rfl, ae, I, bq⟩ hn8
  dsimp only at ae I
  simp only [List.map_cons, List.map_nil, List.cons.injEq, and_true] at ae
  have e6 := ae
  simp only [e6]
  obtain ⟨n8, hm8, h⟩ : ∃ n8 : (Int × b9) → Hp → Prop, (∀ s' H', n8 s' H' → ad s' H' ∧ q s' < q (a8j, a7j)) ∧ Y2 x1 a8j a7j H n8 K := ⟨_, fun _ _ h => h, bp (a8j, a7j) H (fun s' H' => ad s' H' ∧ q s' < q (a8j, a7j)) bq (fun _ _ a b => ⟨a, b⟩)⟩
  unfold c5g
  unfold Y2 at h
  refine a8 V7 (b6 (l1 Tryz.isAgg57 (I.bring 1) rfl) (a8 (a1Z _ _ _) (a8 pLs ?_)))
  simp only [t8]
  refine a8 (Pu.g fun c => by simp only [g7 c]; exact (m3 _)) ?_
  refine a8 (Pu.g fun c => by simp only [g7 c]; exact K5) ?_
  refine b6 (Ld.g fun c => by simp only [g7 c]; exact (l1 Tryz.isAgg4 I rfl)) ?_
  refine a8 (v7 _ _) ?_
  refine m5 h (fun _ h => ?_) (fun _ h => ?_)
  ·refine a8 V7 (b6 (l1 Tryz.isAgg57 (I.bring 1) rfl) ?_)
   obtain ⟨br, bs, bt, af, h⟩ := h
   obtain ⟨cy, cz, bu, af⟩ := af
   refine a8 (P6 bu _ _ _ _ br bs) (b6 (ldA (vs := (h9 bt)) Tryz.isAgg59 Tryz.sizeOf59 rfl (I.atH af)) ?_)
   refine i6 Tryz.call87 (h g0) I ?_
   rintro _ bv _ da bw _ _ ⟨bz, rfl, rfl, h⟩
   refine a8 pAd ?_
   exact hn8 _ _ _ (hm8 _ _ h).2 ⟨((IntKind.wrap .i64 (a8j + 1)), bz), bv, rfl, rfl, ((bw.bring 1).bring 1), (hm8 _ _ h).1⟩
  ·exact hx2 _ _ (hj2 a7j H _ ((I.bring 1).bring 1) h)
 refine r5 fun j1 hx1 => ?_
 refine a8 V6 (b6 (l1 Tryz.isAgg3 j rfl) (a8 pEq ?_))
 refine f6 h (fun _ h => ?_) (fun _ h => ?_)
 ·exact hx1 _ _ (hj1 1 0 x0 H _ ((j.bring 1).bring 1) h)
 ·refine a8 pEq ?_
  refine f6 h (fun _ h => ?_) (fun _ h => ?_)
  ·exact hx1 _ _ (hj1 2 0 x0 H _ ((j.bring 1).bring 1) h)
  ·have hj9 : ∀ (b4W : Bool) H w (_ : Inv w0 ps0 H0 H [bx i 73 (f8 x1), bx g0 111 (p7 x0)] w) (_ : E4 0 0 x1.b7 b4W x1 x0 H K), c0s (Value.pointer (some ⟨g0, 0, none⟩)) (Value.pointer (some ⟨i, 0, none⟩)) (vi 0) (vi 0) (vi x1.b7) (vB b4W) w j1 R E := by
    intro b4W H w I h
    unfold c0s
    intro _
    unfold E4 at h
    refine m5 h (fun _ h => ?_) (fun _ h => ?_)
    ·exact hx1 _ _ (hj1 0 1 x0 H _ ((I.bring 1).bring 1) h)
    ·refine a8 pEq ?_
     refine f6 h (fun _ h => ?_) (fun _ h => ?_)
     ·exact hx1 _ _ (hj1 0 0 x0 H _ ((I.bring 1).bring 1) h)
     ·refine a8 (m3 _) (a8 K5 ?_)
      refine o4 (I.bring 1) Tryz.sizeOf4 (vs := [(vB false)]) (cs' := [(vB false), (vB x0.fnames)]) rfl rfl (nb rfl) rfl rfl fun db ca dc => ?_
      exact hx1 _ _ (hj1 0 0 (b9.mk false x0.fnames) H _ (ca.bring 1) h)
   refine r5 fun j9 hx9 => ?_
   refine a8 pEq ?_
   refine f6 h (fun _ h => ?_) (fun _ h => ?_)
   ·exact hx9 _ _ (hj9 (decide (x1.b7 = 3)) H _ ((j.bring 1).bring 1) h)
   ·refine a8 pEq ?_
    refine f6 h (fun _ h => ?_) (fun _ h => ?_)
    ·exact hx9 _ _ (hj9 (decide (x1.b7 = 4)) H _ ((j.bring 1).bring 1) h)
    ·refine a8 pEq ?_
     refine f6 h (fun _ h => ?_) (fun _ h => ?_)
     ·exact hx9 _ _ (hj9 (decide (x1.b7 = 5)) H _ ((j.bring 1).bring 1) h)
     ·refine a8 pEq ?_
      exact hx9 _ _ (hj9 (decide (x1.b7 = 6)) H _ ((j.bring 1).bring 1) h)
def a0X (a : b9) (d : d6) (e : o3) (H : Hp) (K : Int → Hp → Prop) : Prop :=
 a2C a H (fun b c =>
 K b c)
def a0Y (d : d6) (a : o3) (G6 : Int) (b : b9) (H : Hp) (n3 : (Int × b9) → Hp → Prop) (K : Int → Hp → Prop) : Prop :=
 (((decide (G6 < (a.a2f.n : Int))) && b.fok) = true →
 (0 : Int) ≤ G6 ∧ (G6 : Int) < a.a2f.n ∧ ∃ c : m7, EltH H a.a2f G6 6 (f8 c) ∧
 T6 b c H (fun e f =>
 n3 ((IntKind.wrap .i64 (G6 + 1)), e) f)) ∧
 (((decide (G6 < (a.a2f.n : Int))) && b.fok) = false →
 a0X b d a H K)
def a0Z (a : b9) (b : d6) (c : o3) (H : Hp) (K : Int → Hp → Prop) : Prop :=
 TL ((0, a) : Int × b9) H fun (s : Int × b9) H n3 => a0Y b c s.1 s.2 H n3 K
def a1b (f : d6) (a : o3) (G2 : Int) (b : b9) (H : Hp) (n4 : (Int × b9) → Hp → Prop) (K : Int → Hp → Prop) : Prop :=
 (G2 < (a.D9.n : Int) →
 ∃ c : i8, (b.fok = true → (0 : Int) ≤ G2 ∧ (G2 : Int) < a.D9.n ∧ EltH H a.D9 G2 2 (o7 c)) ∧
 ∃ d : i8, ((b.fok && (decide (0 ≤ c.A4))) = true → (0 : Int) ≤ G2 ∧ (G2 : Int) < a.D9.n ∧ EltH H a.D9 G2 2 (o7 d)) ∧
 (0 : Int) ≤ G2 ∧ (G2 : Int) < a.D9.n ∧ ∃ e : i8, EltH H a.D9 G2 2 (o7 e) ∧
 T4 (b9.mk ((b.fok && (decide (0 ≤ c.A4))) && (decide (d.A4 ≤ 2147483647))) b.fnames) e.d9 true H (fun g i =>
 n4 ((IntKind.wrap .i64 (G2 + 1)), g) i)) ∧
 (¬ (G2 < (a.D9.n : Int)) →
 a0Z b f a H K)
def a4f (x0 : o3) (H : Hp) (K : Int → Hp → Prop) : Prop :=
 a3G x0 H (fun a b =>
 (¬ (a.fbad = 0) →
 K a.fbad b) ∧
 (a.fbad = 0 →
 TL ((0, (b9.mk true true)) : Int × b9) b fun (s : Int × b9) H n4 => a1b a x0 s.1 s.2 H n4 K))
theorem b0p (x0) {H K} (h : a4f x0 H K) : a4b x0 H K := by
 refine Ct.of fun w0 w ps0 H0 R E I hR => d1V ?_
 unfold a4f at h
 unfold F27
 refine F0 I (cs := (q7 x0)) rfl fun o bn ai bo => ?_
 refine b6 (lW Tryz.isAgg25 Tryz.sizeOf25 rfl ai) ?_
 refine i6 Tryz.call47 h ai ?_
 rintro _ aj _ bp ak _ _ ⟨f, rfl, rfl, h⟩
 refine B9 ak Tryz.zeroValue108 (cs := [(vi 0), (vi 0), (vi 0)]) rfl fun u bq al br => ?_
 refine o4 al Tryz.sizeOf108 (vs := (p5 f)) (cs' := (p5 f)) rfl rfl (nb rfl) rfl rfl fun bs y bt => ?_
 refine a8 U5 (b6 (l1 Tryz.isAgg3 y rfl) (a8 pNe ?_))
 refine a1v h (fun _ h => ?_) (fun _ h => ?_)
 ·refine a8 U5 (b6 (l1 Tryz.isAgg3 y rfl) ?_)
  exact hR _ aj _ _ y.drop.drop ⟨f.fbad, rfl, rfl, h⟩
 ·refine a8 (b7e _ _) ?_
  refine B9 y Tryz.zeroValue111 (cs := [(vB false), (vB false)]) rfl fun j bu am bv => ?_
  refine o4 am Tryz.sizeOf111 (vs := [(vB true), (vB true)]) (cs' := [(vB true), (vB true)]) rfl rfl (nb rfl) rfl rfl fun bw an bz => ?_
  have hj1 : ∀ (z : b9) H w (_ : Inv w0 ps0 H0 H [bx j 111 (p7 z), bx u 108 (p5 f), bx o 25 (q7 x0)] w) (_ : a0Z z f x0 H K), c0n (Value.pointer (some ⟨o, 0, none⟩)) (Value.pointer (some ⟨j, 0, none⟩)) w R E := by
   intro z H w I h
   unfold c0n
   intro _
   unfold a0Z at h
   have hj2 : ∀ (aa : b9) H w (_ : Inv w0 ps0 H0 H [bx j 111 (p7 aa), bx u 108 (p5 f), bx o 25 (q7 x0)] w) (_ : a0X aa f x0 H K), c0m (Value.pointer (some ⟨j, 0, none⟩)) w R E := by
    intro aa H w I h
    unfold c0m
    intro _
    unfold a0X at h
    refine b6 (lW Tryz.isAgg111 Tryz.sizeOf111 rfl I) ?_
    refine i6 Tryz.call50 h I ?_
    rintro _ ao _ ca ap _ _ ⟨aq, rfl, rfl, h⟩
    exact hR _ ao _ _ ap.drop.drop.drop ⟨aq, rfl, rfl, h⟩
   refine r5 fun j2 hx2 => ?_
   obtain ⟨ab, p, ar, au⟩ := h
   refine y7 (J := fun n l w => ∃ (s : Int × b9) (H : Hp) , n = p s ∧ l = (match s with | (G6, m) => [(vi G6)]) ∧ (match s with | (G6, m) => Inv w0 ps0 H0 H [bx j 111 (p7 m), bx u 108 (p5 f), bx o 25 (q7 x0)] w) ∧ ab s H) ⟨_, (0, z), H, rfl, rfl, (((I.bring 2).bring 2).bring 2), ar⟩ ?_
   rintro cb cc w next3 ⟨⟨G6, m⟩, H, rfl, ac, I, av⟩ hn3
   dsimp only at ac I
   simp only [List.map_cons, List.map_nil, List.cons.injEq, and_true] at ac
   have e6 := ac
   simp only [e6]
   obtain ⟨n3, hm3, h⟩ : ∃ n3 : (Int × b9) → Hp → Prop, (∀ s' H', n3 s' H' → ab s' H' ∧ p s' < p (G6, m)) ∧ a0Y f x0 G6 m H n3 K := ⟨_, fun _ _ h => h, au (G6, m) H (fun s' H' => ab s' H' ∧ p s' < p (G6, m)) av (fun _ _ a b => ⟨a, b⟩)⟩
   unfold c5b
   unfold a0Y at h
   refine a8 a3X (b6 (l1 Tryz.isAgg23 (I.bring 2) rfl) (a8 (a0h _ _ _) (a8 pLs ?_)))
   refine a8 (Pu.g fun c => by exact K5) ?_
   refine b6 (Ld.g fun c => by simp only [g7 c]; exact (l1 Tryz.isAgg4 I rfl)) ?_
   refine a8 (v7 _ _) ?_
   refine m5 h (fun _ h => ?_) (fun _ h => ?_)
   ·refine a8 a3X (b6 (l1 Tryz.isAgg23 (I.bring 2) rfl) ?_)
    obtain ⟨aw, ax, ay, ad, h⟩ := h
    obtain ⟨cd, ce, az, ad⟩ := ad
    refine a8 (a4s az _ _ _ _ aw ax) (b6 (ldA (vs := (f8 ay)) Tryz.isAgg73 Tryz.sizeOf73 rfl (I.atH ad)) ?_)
    refine i6 Tryz.call49 (h j) I ?_
    rintro _ ba _ cf bb _ _ ⟨bc, rfl, rfl, h⟩
    refine a8 pAd ?_
    exact hn3 _ _ _ (hm3 _ _ h).2 ⟨((IntKind.wrap .i64 (G6 + 1)), bc), ba, rfl, rfl, (((bb.bring 2).bring 2).bring 2), (hm3 _ _ h).1⟩
   ·exact hx2 _ _ (hj2 m H _ (((I.bring 2).bring 2).bring 2) h)
  refine r5 fun j1 hx1 => ?_
  obtain ⟨ae, q, bd, be⟩ := h
  refine y7 (J := fun n l w => ∃ (s : Int × b9) (H : Hp) , n = q s ∧ l = (match s with | (G2, i) => [(vi G2)]) ∧ (match s with | (G2, i) => Inv w0 ps0 H0 H [bx j 111 (p7 i), bx u 108 (p5 f), bx o 25 (q7 x0)] w) ∧ ae s H) ⟨_, (0, (b9.mk true true)), aj, rfl, rfl, (((an.bring 2).bring 2).bring 2), bd⟩ ?_
  rintro cg ch w next4 ⟨⟨G2, i⟩, H, rfl, af, I, bf⟩ hn4
  dsimp only at af I
  simp only [List.map_cons, List.map_nil, List.cons.injEq, and_true] at af
  have e5 := af
  simp only [e5]
  obtain ⟨n4, hm4, h⟩ : ∃ n4 : (Int × b9) → Hp → Prop, (∀ s' H', n4 s' H' → ae s' H' ∧ q s' < q (G2, i)) ∧ a1b f x0 G2 i H n4 K := ⟨_, fun _ _ h => h, be (G2, i) H (fun s' H' => ae s' H' ∧ q s' < q (G2, i)) bf (fun _ _ a b => ⟨a, b⟩)⟩
  unfold c5c
  unfold a1b at h
  refine a8 O1 (b6 (l1 Tryz.isAgg22 (I.bring 2) rfl) (a8 (a3w _ _ _) (a8 pLs ?_)))
  refine f6 h (fun _ h => ?_) (fun _ h => ?_)
  ·refine a8 K5 (b6 (l1 Tryz.isAgg4 I rfl) ?_)
   refine a8 (Pu.g fun c => by exact O1) ?_
   refine b6 (Ld.g fun c => by simp only [g7 c]; exact (l1 Tryz.isAgg22 (I.bring 2) rfl)) ?_
   simp only [t8]
   obtain ⟨r, d, h⟩ := h
   obtain ⟨ci, cj, d⟩ := b3d d
   refine a8 (Pu.g fun hb => by have c := hb; simp only [g7 c]; exact (a1x (d hb).2.2.1 _ _ _ _ (d hb).1 (d hb).2.1)) ?_
   refine a8 (Pu.g fun c => by simp only [g7 c]; exact V9) ?_
   refine b6 (Ld.g fun hb => by have c := hb; simp only [g7 c]; exact (ld1 (v := (vi r.A4)) Tryz.isAgg3 ((I.atH (d hb).2.2.2).sub (k := 1) (n := 1) (nb rfl)))) ?_
   refine a8 (Pu.g fun c => by simp only [g7 c]; exact pGe) ?_
   refine a8 (v7 _ _) ?_
   refine a8 (Pu.g fun c => by exact O1) ?_
   refine b6 (Ld.g fun c => by simp only [g7 c]; exact (l1 Tryz.isAgg22 (I.bring 2) rfl)) ?_
   simp only [t8]
   obtain ⟨t, e, h⟩ := h
   obtain ⟨ck, cl, e⟩ := b3d e
   refine a8 (Pu.g fun hb => by have c := hb; simp only [g7 c]; exact (a1x (e hb).2.2.1 _ _ _ _ (e hb).1 (e hb).2.1)) ?_
   refine a8 (Pu.g fun c => by simp only [g7 c]; exact V9) ?_
   refine b6 (Ld.g fun hb => by have c := hb; simp only [g7 c]; exact (ld1 (v := (vi t.A4)) Tryz.isAgg3 ((I.atH (e hb).2.2.2).sub (k := 1) (n := 1) (nb rfl)))) ?_
   refine a8 (Pu.g fun c => by simp only [g7 c]; exact pLe) ?_
   refine a8 (v7 _ _) (a8 K5 ?_)
   refine o4 I Tryz.sizeOf4 (vs := [(vB ((i.fok && (decide (0 ≤ r.A4))) && (decide (t.A4 ≤ 2147483647))))]) (cs' := [(vB ((i.fok && (decide (0 ≤ r.A4))) && (decide (t.A4 ≤ 2147483647)))), (vB i.fnames)]) rfl rfl (nb rfl) rfl rfl fun cm ag cn => ?_
   refine a8 O1 (b6 (l1 Tryz.isAgg22 (ag.bring 2) rfl) ?_)
   obtain ⟨bg, bh, bi, ah, h⟩ := h
   obtain ⟨co, cp, bj, ah⟩ := ah
   refine a8 (a1x bj _ _ _ _ bg bh) (a8 Q5 (b6 (ld1 (v := (Value.string bi.d9)) Tryz.isAgg9 ((ag.atH ah).sub (k := 0) (n := 1) (nb rfl))) ?_))
   refine i6 Tryz.call48 (h j) ag ?_
   rintro _ bk _ cq bl _ _ ⟨bm, rfl, rfl, h⟩
   refine a8 pAd ?_
   exact hn4 _ _ _ (hm4 _ _ h).2 ⟨((IntKind.wrap .i64 (G2 + 1)), bm), bk, rfl, rfl, (((bl.bring 2).bring 2).bring 2), (hm4 _ _ h).1⟩
  ·exact hx1 _ _ (hj1 i H _ (((I.bring 2).bring 2).bring 2) h)
end Go.Proofs.YtnhkdkcgdcgmdaaGreatDoor
