/- Typed formulas of the program's functions that few laws need; printed by lift.py off the code. -/
import Derived.Test.YtnhkdkcgdcgmdaaGreatDoorzUV1
import Derived.Test.YtnhkdkcgdcgmdaaGreatDoorzUG1z
namespace Go.Proofs.YtnhkdkcgdcgmdaaGreatDoor
open Go.RowKit
set_option maxRecDepth 100000
set_option maxHeartbeats 2000000
variable {w0 w : World} {ps0 : Nat → Prop} {H0 H : Hp} {R : RT} {E : Pan}
def a8U (x0 : b7) (H : Hp) (K : Int → Hp → Prop) : Prop :=
 ∀ (s_7 : Sl) (a1X : Hp), Hle H a1X → SlH a1X 1 v8 s_7 [(g8.R2 (R6.mk x0))] → s_7.n ≤ s_7.c →
 a4T s_7 a1X (fun (z7 : m7) (c1i : Hp) =>
 K z7.fe c1i)
theorem c4E (x0 : b7) {K : Int → Hp → Prop} (I : Inv w0 ps0 H0 H [] w) (hR : ∀ (r0 : Int) (H' : Hp) (w' : World) (_ : Inv w0 ps0 H0 H' [] w') (_ : K r0 H'), R (vi r0) w') (h : a8U x0 H K) : F41 (Value.agg (d8 x0).toArray) w R E := by
 unfold a8U at h
 unfold F41
 refine K6 I (cs := (d8 x0)) rfl fun g_2 w_3 I_4 k_5 => ?_
 refine f2 (ldA Tryz.isAgg59 Tryz.sizeOf59 rfl (I_4.at1 (o := 0) (vs := (d8 x0)) (nb rfl) rfl)) ?_
 refine a7 (c4Q _ _ _ _ _ _ _ _) ?_
 refine a7 (c1E (R6.mk x0)) ?_
 refine a4b (e := 150) (c := v8) (xs := [(g8.R2 (R6.mk x0))]) I_4 (b5w _) rfl rfl T5 W0 (nb rfl) fun s_7 F_8 w_9 b1F a3G b3h => ?_
 obtain ⟨a1X, P1, c5K, a8e, b9f⟩ := Inv.freezeC a3G b1F (by decide)
 replace h := h s_7 a1X c5K a8e b9f
 refine f7 (cap := []) (fun args w => Tryz.call65 args w) ?_
 refine k8 (Fi := []) (Fr := [bx g_2 59 (d8 x0)]) P1 (h) (fun h4X c1i h4Y X1 b0Y h4Z c3k d8K => ?_) (fun _ _ _ _ _ q => q.elim)
 obtain ⟨z7, h5a, rfl, rfl, h⟩ := d8K
 refine a7 (w7 _) ?_
 refine a7 a9c ?_
 refine f2 (ld1 Tryz.isAgg27 (b0Y.at1 (o := 2) (vs := [(vi z7.fe)]) (nb rfl) rfl)) ?_
 exact hR z7.fe c1i _ b0Y.drop.drop h
theorem c6n (x0 : b7) {H : Hp} {K : Int → Hp → Prop} (h : a8U x0 H K) : b1r x0 H K := by
 intro w I
 refine h5U ?_
 refine c4E x0 I (fun r0 H' w' I' hk => ⟨H', _, I', r0, rfl, rfl, hk⟩) h
def a2D (x0 : b9) (H : Hp) (K : Int → Hp → Prop) : Prop :=
 ((!x0.fok) = true →
 K 30 H) ∧
 ((!x0.fok) = false →
 ((!x0.fnames) = true →
 K 31 H) ∧
 ((!x0.fnames) = false →
 K 0 H))
theorem b4N (x0 : b9) {K : Int → Hp → Prop} (I : Inv w0 ps0 H0 H [] w) (hR : ∀ (r0 : Int) (H' : Hp) (w' : World) (_ : Inv w0 ps0 H0 H' [] w') (_ : K r0 H'), R (vi r0) w') (h : a2D x0 H K) : F50 (Value.agg (k3 x0).toArray) w R E := by
 unfold a2D at h
 unfold F50
 refine K6 I (cs := (k3 x0)) rfl fun g_2 w_3 I_4 k_5 => ?_
 refine a7 N8 ?_
 refine f2 (ld1 Tryz.isAgg4 (I_4.at1 (o := 0) (vs := [(vB x0.fok)]) (nb rfl) rfl)) ?_
 refine a7 (T4 _) ?_
 refine o2 (fun c_7 => ?_) (fun c_7 => ?_)
 ·replace h := h.1 c_7
  exact hR 30 H _ I_4.drop h
 ·replace h := h.2 c_7
  refine a7 c0M ?_
  refine f2 (ld1 Tryz.isAgg4 (I_4.at1 (o := 1) (vs := [(vB x0.fnames)]) (nb rfl) rfl)) ?_
  refine a7 (T4 _) ?_
  refine o2 (fun c_6 => ?_) (fun c_6 => ?_)
  ·replace h := h.1 c_6
   exact hR 31 H _ I_4.drop h
  ·replace h := h.2 c_6
   exact hR 0 H _ I_4.drop h
theorem b5l (x0 : b9) {H : Hp} {K : Int → Hp → Prop} (h : a2D x0 H K) : a5t x0 H K := by
 intro w I
 refine h6E ?_
 refine b4N x0 I (fun r0 H' w' I' hk => ⟨H', _, I', r0, rfl, rfl, hk⟩) h
def a3K (j3X : Int) (b9A : Int) (a6y : Int) (H : Hp) (K : Int → Int → Bool → Hp → Prop) : Prop :=
 ((((decide (a6y < b9A)) || (decide (1114111 < a6y))) || ((decide (55296 ≤ a6y)) && (decide (a6y < 57344)))) = true →
 K 65533 1 false H) ∧
 ((((decide (a6y < b9A)) || (decide (1114111 < a6y))) || ((decide (55296 ≤ a6y)) && (decide (a6y < 57344)))) = false →
 K a6y j3X true H)
def a3L (b5X : ByteArray) (b2G : Int) (f6i : Int) (j3Y : Int) (b2X : Int) (a2e : Int) (H : Hp) (n3 : (Int × Int) → Hp → Prop) (K : Int → Int → Bool → Hp → Prop) : Prop :=
 (a2e < f6i →
 ((decide ((b5X.size : Int) ≤ (IntKind.wrap .i64 (b2G + a2e)))) = false → (0 : Int) ≤ IntKind.wrap .i64 (b2G + a2e) ∧ IntKind.wrap .i64 (b2G + a2e) < (b5X.size : Int)) ∧
 (((decide ((b5X.size : Int) ≤ (IntKind.wrap .i64 (b2G + a2e)))) || (decide (((b5X.get! (IntKind.wrap .i64 (b2G + a2e) : Int).toNat).toNat : Int) < 128))) = false → (0 : Int) ≤ IntKind.wrap .i64 (b2G + a2e) ∧ IntKind.wrap .i64 (b2G + a2e) < (b5X.size : Int)) ∧
 ((((decide ((b5X.size : Int) ≤ (IntKind.wrap .i64 (b2G + a2e)))) || (decide (((b5X.get! (IntKind.wrap .i64 (b2G + a2e) : Int).toNat).toNat : Int) < 128))) || (decide (192 ≤ ((b5X.get! (IntKind.wrap .i64 (b2G + a2e) : Int).toNat).toNat : Int)))) = true →
 K 65533 1 false H) ∧
 ((((decide ((b5X.size : Int) ≤ (IntKind.wrap .i64 (b2G + a2e)))) || (decide (((b5X.get! (IntKind.wrap .i64 (b2G + a2e) : Int).toNat).toNat : Int) < 128))) || (decide (192 ≤ ((b5X.get! (IntKind.wrap .i64 (b2G + a2e) : Int).toNat).toNat : Int)))) = false →
 (0 : Int) ≤ IntKind.wrap .i64 (b2G + a2e) ∧ IntKind.wrap .i64 (b2G + a2e) < (b5X.size : Int) ∧
 n3 ((IntKind.wrap .i64 ((IntKind.wrap .i64 ((IntKind.wrap .i64 (64 * b2X)) + (IntKind.wrap .i64 ((b5X.get! (IntKind.wrap .i64 (b2G + a2e) : Int).toNat).toNat : Int)))) - 128)), (IntKind.wrap .i64 (a2e + 1))) H)) ∧
 (¬ (a2e < f6i) →
 a3K f6i j3Y b2X H K)
def R5 (d3C : ByteArray) (c9L : Int) (b2H : Int) (c6o : Int) (c7o : Int) (H : Hp) (K : Int → Int → Bool → Hp → Prop) : Prop :=
 TL ((c7o, 1) : Int × Int) H fun (s : Int × Int) H n3 => a3L d3C c9L b2H c6o s.1 s.2 H n3 K
def a5g (x0 : ByteArray) (x1 : Int) (H : Hp) (K : Int → Int → Bool → Hp → Prop) : Prop :=
 (0 : Int) ≤ x1 ∧ x1 < (x0.size : Int) ∧
 ((IntKind.wrap .i64 ((x0.get! (x1 : Int).toNat).toNat : Int)) < 128 →
 K (IntKind.wrap .i64 ((x0.get! (x1 : Int).toNat).toNat : Int)) 1 true H) ∧
 (¬ ((IntKind.wrap .i64 ((x0.get! (x1 : Int).toNat).toNat : Int)) < 128) →
 (((decide (194 ≤ (IntKind.wrap .i64 ((x0.get! (x1 : Int).toNat).toNat : Int)))) && (decide ((IntKind.wrap .i64 ((x0.get! (x1 : Int).toNat).toNat : Int)) < 224))) = true →
 R5 x0 x1 2 128 (IntKind.wrap .i64 ((IntKind.wrap .i64 ((x0.get! (x1 : Int).toNat).toNat : Int)) - 192)) H K) ∧
 (((decide (194 ≤ (IntKind.wrap .i64 ((x0.get! (x1 : Int).toNat).toNat : Int)))) && (decide ((IntKind.wrap .i64 ((x0.get! (x1 : Int).toNat).toNat : Int)) < 224))) = false →
 (((decide (224 ≤ (IntKind.wrap .i64 ((x0.get! (x1 : Int).toNat).toNat : Int)))) && (decide ((IntKind.wrap .i64 ((x0.get! (x1 : Int).toNat).toNat : Int)) < 240))) = true →
 R5 x0 x1 3 2048 (IntKind.wrap .i64 ((IntKind.wrap .i64 ((x0.get! (x1 : Int).toNat).toNat : Int)) - 224)) H K) ∧
 (((decide (224 ≤ (IntKind.wrap .i64 ((x0.get! (x1 : Int).toNat).toNat : Int)))) && (decide ((IntKind.wrap .i64 ((x0.get! (x1 : Int).toNat).toNat : Int)) < 240))) = false →
 (((decide (240 ≤ (IntKind.wrap .i64 ((x0.get! (x1 : Int).toNat).toNat : Int)))) && (decide ((IntKind.wrap .i64 ((x0.get! (x1 : Int).toNat).toNat : Int)) < 245))) = true →
 R5 x0 x1 4 65536 (IntKind.wrap .i64 ((IntKind.wrap .i64 ((x0.get! (x1 : Int).toNat).toNat : Int)) - 240)) H K) ∧
 (((decide (240 ≤ (IntKind.wrap .i64 ((x0.get! (x1 : Int).toNat).toNat : Int)))) && (decide ((IntKind.wrap .i64 ((x0.get! (x1 : Int).toNat).toNat : Int)) < 245))) = false →
 K 65533 1 false H))))
theorem b7G (x0 : ByteArray) (x1 : Int) {K : Int → Int → Bool → Hp → Prop} (I : Inv w0 ps0 H0 H [] w) (hR : ∀ (r0 : Int) (r1 : Int) (r2 : Bool) (H' : Hp) (w' : World) (_ : Inv w0 ps0 H0 H' [] w') (_ : K r0 r1 r2 H'), R (Value.tuple #[(vi r0), (vi r1), (vB r2)]) w') (h : a5g x0 x1 H K) : e6c (Value.string x0) (vi x1) w R E := by
 unfold a5g at h
 unfold e6c
 obtain ⟨h_1, h_2, h⟩ := h
 refine a7 (c1G _ _ _ h_1 h_2) ?_
 refine a7 (c4R _ _) ?_
 have hj1 : ∀ (b2H : Int) (c6o : Int) (c7o : Int) (H : Hp) (w : World) (_ : Inv w0 ps0 H0 H [] w) (_ : R5 x0 x1 b2H c6o c7o H K), d3K (Value.string x0) (vi x1) (vi b2H) (vi c6o) (vi c7o) w R E := by
  intro b2H c6o c7o H w I h
  unfold d3K
  intro _
  unfold R5 at h
  have hj2 : ∀ (a6y : Int) (H : Hp) (w : World) (_ : Inv w0 ps0 H0 H [] w) (_ : a3K b2H c6o a6y H K), d3J (vi b2H) (vi c6o) (vi a6y) w R E := by
   intro a6y H w I h
   unfold d3J
   intro _
   unfold a3K at h
   refine a7 (v7 _ _ _ _ _ _) ?_
   simp only [z2]
   refine a7 (Pu.g fun hb => by have d7 := hb; simp only [i6 d7]; exact (a7Q _ _ _ _ _ _)) ?_
   refine a7 (M4 _ _) ?_
   simp only [z2]
   refine a7 (Pu.g fun hb => by have d7 := hb; simp only [i6 d7]; exact (a7e _ _ _ _ _ _)) ?_
   simp only [b1S, c1D]
   refine a7 (Pu.e (a8C _ _ _) (Pu.g fun hb => by obtain ⟨d7, a5u⟩ := b1R hb; simp only [i6 hb]; exact (v7 _ _ _ _ _ _))) ?_
   refine a7 (Pu.g fun hb => by have d7 := hb; simp only [i6 d7, b8l d7]; exact (w8 _ _)) ?_
   refine a7 (M4 _ _) ?_
   refine o2 (fun c9M => ?_) (fun c9M => ?_)
   ·replace h := h.1 c9M
    exact hR 65533 1 false H _ I h
   ·replace h := h.2 c9M
    exact hR a6y b2H true H _ I h
  refine r9 fun j2 hx2 => ?_
  obtain ⟨f6j, d9Z, j3Z, j4a⟩ := h
  refine A7 (J := fun n l w => ∃ (s : Int × Int) (H : Hp) , n = d9Z s ∧ l = (match s with | (b2X, a2e) => [(vi b2X), (vi a2e)]) ∧ (match s with | (b2X, a2e) => Inv w0 ps0 H0 H [] w) ∧ f6j s H) ⟨_, (c7o, 1), H, rfl, rfl, I, j3Z⟩ ?_
  rintro k0L τ_19 w next3 ⟨⟨b2X, a2e⟩, H, rfl, c6p, I, j4b⟩ hn3
  dsimp only at c6p I
  simp only [List.map_cons, List.map_nil, List.cons.injEq, and_true] at c6p
  obtain ⟨e10, e11⟩ := c6p
  simp only [e10, e11]
  obtain ⟨n3, hm3, h⟩ : ∃ n3 : (Int × Int) → Hp → Prop, (∀ s' H', n3 s' H' → f6j s' H' ∧ d9Z s' < d9Z (b2X, a2e)) ∧ a3L x0 x1 b2H c6o b2X a2e H n3 K := ⟨_, fun _ _ h => h, j4a (b2X, a2e) H (fun s' H' => f6j s' H' ∧ d9Z s' < d9Z (b2X, a2e)) j4b (fun _ _ a b => ⟨a, b⟩)⟩
  unfold e2X
  unfold a3L at h
  refine a7 (v7 _ _ _ _ _ _) ?_
  refine k4 (fun c9D => ?_) (fun c9D => ?_)
  ·replace h := h.1 c9D
   refine a7 (u7 _ _ _ _ _ _) ?_
   refine a7 (c2F _) ?_
   refine a7 (a7e _ _ _ _ _ _) ?_
   simp only [z2]
   refine a7 (Pu.g fun hb => by have d7 := hb; simp only [i6 d7]; exact (u7 _ _ _ _ _ _)) ?_
   obtain ⟨h_5, h⟩ := h
   refine a7 (Pu.g fun hb => by have d7 := hb; simp only [i6 d7]; exact (c1G _ _ _ (h_5 hb).1 (h_5 hb).2)) ?_
   refine a7 (Pu.g fun hb => by have d7 := hb; simp only [i6 d7]; exact (v7 _ _ _ _ _ _)) ?_
   refine a7 (M4 _ _) ?_
   simp only [z2]
   refine a7 (Pu.g fun hb => by have d7 := hb; simp only [i6 d7]; exact (u7 _ _ _ _ _ _)) ?_
   obtain ⟨h_8, h⟩ := h
   refine a7 (Pu.g fun hb => by have d7 := hb; simp only [i6 d7]; exact (c1G _ _ _ (h_8 hb).1 (h_8 hb).2)) ?_
   refine a7 (Pu.g fun hb => by have d7 := hb; simp only [i6 d7]; exact (a7e _ _ _ _ _ _)) ?_
   refine a7 (M4 _ _) ?_
   refine o2 (fun b0t => ?_) (fun b0t => ?_)
   ·replace h := h.1 b0t
    exact hR 65533 1 false H _ I h
   ·replace h := h.2 b0t
    refine a7 (b8j _ _ _ _ _ _) ?_
    refine a7 (u7 _ _ _ _ _ _) ?_
    obtain ⟨h_9, b1F, h⟩ := h
    refine a7 (c1G _ _ _ h_9 b1F) ?_
    refine a7 (c4R _ _) ?_
    refine a7 (u7 _ _ _ _ _ _) ?_
    refine a7 (b0N _ _ _ _ _ _) ?_
    refine a7 (u7 _ _ _ _ _ _) ?_
    exact hn3 _ _ _ (hm3 _ _ h).2 ⟨((IntKind.wrap .i64 ((IntKind.wrap .i64 ((IntKind.wrap .i64 (64 * b2X)) + (IntKind.wrap .i64 ((x0.get! (IntKind.wrap .i64 (x1 + a2e) : Int).toNat).toNat : Int)))) - 128)), (IntKind.wrap .i64 (a2e + 1))), H, rfl, rfl, I, (hm3 _ _ h).1⟩
  ·replace h := h.2 c9D
   exact hx2 _ _ (hj2 b2X H _ I h)
 refine r9 fun j1 hx1 => ?_
 refine a7 (v7 _ _ _ _ _ _) ?_
 refine k4 (fun c9I => ?_) (fun c9I => ?_)
 ·replace h := h.1 c9I
  exact hR (IntKind.wrap .i64 ((x0.get! (x1 : Int).toNat).toNat : Int)) 1 true H _ I h
 ·replace h := h.2 c9I
  refine a7 (a7e _ _ _ _ _ _) ?_
  simp only [z2]
  refine a7 (Pu.g fun hb => by have d7 := hb; simp only [i6 d7]; exact (v7 _ _ _ _ _ _)) ?_
  refine a7 (w8 _ _) ?_
  refine o2 (fun b9r => ?_) (fun b9r => ?_)
  ·replace h := h.1 b9r
   refine a7 (b0N _ _ _ _ _ _) ?_
   exact hx1 _ _ (hj1 2 128 (IntKind.wrap .i64 ((IntKind.wrap .i64 ((x0.get! (x1 : Int).toNat).toNat : Int)) - 192)) H _ I h)
  ·replace h := h.2 b9r
   refine a7 (a7e _ _ _ _ _ _) ?_
   simp only [z2]
   refine a7 (Pu.g fun hb => by have d7 := hb; simp only [i6 d7]; exact (v7 _ _ _ _ _ _)) ?_
   refine a7 (w8 _ _) ?_
   refine o2 (fun c9J => ?_) (fun c9J => ?_)
   ·replace h := h.1 c9J
    refine a7 (b0N _ _ _ _ _ _) ?_
    exact hx1 _ _ (hj1 3 2048 (IntKind.wrap .i64 ((IntKind.wrap .i64 ((x0.get! (x1 : Int).toNat).toNat : Int)) - 224)) H _ I h)
   ·replace h := h.2 c9J
    refine a7 (a7e _ _ _ _ _ _) ?_
    simp only [z2]
    refine a7 (Pu.g fun hb => by have d7 := hb; simp only [i6 d7]; exact (v7 _ _ _ _ _ _)) ?_
    refine a7 (w8 _ _) ?_
    refine o2 (fun b3z => ?_) (fun b3z => ?_)
    ·replace h := h.1 b3z
     refine a7 (b0N _ _ _ _ _ _) ?_
     exact hx1 _ _ (hj1 4 65536 (IntKind.wrap .i64 ((IntKind.wrap .i64 ((x0.get! (x1 : Int).toNat).toNat : Int)) - 240)) H _ I h)
    ·replace h := h.2 b3z
     exact hR 65533 1 false H _ I h
theorem b9B (x0 : ByteArray) (x1 : Int) {H : Hp} {K : Int → Int → Bool → Hp → Prop} (h : a5g x0 x1 H K) : a8a x0 x1 H K := by
 intro w I
 refine g3I ?_
 refine b7G x0 x1 I (fun r0 r1 r2 H' w' I' hk => ⟨H', _, I', r0, r1, r2, rfl, rfl, hk⟩) h
def a6N (x0 : Int) (x1 : Int) (x2 : Int) (H : Hp) (K : Bool → Hp → Prop) : Prop :=
 K ((decide (x1 ≤ x0)) && (decide (x0 ≤ x2))) H
theorem b5Y (x0 : Int) (x1 : Int) (x2 : Int) {K : Bool → Hp → Prop} (I : Inv w0 ps0 H0 H [] w) (hR : ∀ (r0 : Bool) (H' : Hp) (w' : World) (_ : Inv w0 ps0 H0 H' [] w') (_ : K r0 H'), R (vB r0) w') (h : a6N x0 x1 x2 H K) : e6e (vi x0) (vi x1) (vi x2) w R E := by
 unfold a6N at h
 unfold e6e
 refine a7 (a7e _ _ _ _ _ _) ?_
 simp only [z2]
 refine a7 (Pu.g fun hb => by have d7 := hb; simp only [i6 d7]; exact (b4a _ _ _ _ _ _)) ?_
 refine a7 (w8 _ _) ?_
 exact hR ((decide (x1 ≤ x0)) && (decide (x0 ≤ x2))) H _ I h
theorem b6E (x0 : Int) (x1 : Int) (x2 : Int) {H : Hp} {K : Bool → Hp → Prop} (h : a6N x0 x1 x2 H K) : A0 x0 x1 x2 H K := by
 intro w I
 refine g3M ?_
 refine b5Y x0 x1 x2 I (fun r0 H' w' I' hk => ⟨H', _, I', r0, rfl, rfl, hk⟩) h
def a3o (H : Hp) (K : Int → Hp → Prop) : Prop :=
 K 6 H
def O1 (b6X : Int) (a3I : ByteArray) (O7 : Int) (H : Hp) (n2 : Int → Hp → Prop) (K : Int → Hp → Prop) : Prop :=
 (O7 < (a3I.size : Int) →
 (0 : Int) ≤ O7 ∧ O7 < (a3I.size : Int) ∧
 (b6X = (IntKind.wrap .i64 ((a3I.get! (O7 : Int).toNat).toNat : Int)) →
 K 5 H) ∧
 (¬ (b6X = (IntKind.wrap .i64 ((a3I.get! (O7 : Int).toNat).toNat : Int))) →
 n2 (IntKind.wrap .i64 (O7 + 1)) H)) ∧
 (¬ (O7 < (a3I.size : Int)) →
 a3o H K)
def a4q (x0 : Int) (H : Hp) (K : Int → Hp → Prop) : Prop :=
 ((((decide (x0 = 32)) || (decide (x0 = 9))) || (decide (x0 = 13))) = true →
 K 1 H) ∧
 ((((decide (x0 = 32)) || (decide (x0 = 9))) || (decide (x0 = 13))) = false →
 (x0 = 10 →
 K 2 H) ∧
 (¬ (x0 = 10) →
 A0 x0 48 57 H (fun (J8 : Bool) (H_1 : Hp) =>
 (J8 = true →
 K 4 H_1) ∧
 (J8 = false →
 A0 x0 97 122 H_1 (fun (A4 : Bool) (a4w : Hp) =>
 TG (A4 = false) (A0 x0 65 90 a4w) false a4w (fun (K4 : Bool) (X7 : Hp) =>
 TG (((A4 || K4) || (decide (x0 = 95))) = false) (A0 x0 192 591 X7) false X7 (fun (a2E : Bool) (b1b : Hp) =>
 TG ((((A4 || K4) || (decide (x0 = 95))) || ((a2E && (!decide (x0 = 215))) && (!decide (x0 = 247)))) = false) (A0 x0 913 969 b1b) false b1b (fun (a2f : Bool) (a8z : Hp) =>
 TG (((((A4 || K4) || (decide (x0 = 95))) || ((a2E && (!decide (x0 = 215))) && (!decide (x0 = 247)))) || (a2f && (!decide (x0 = 930)))) = false) (A0 x0 1040 1103 a8z) false a8z (fun (a8p : Bool) (a9n : Hp) =>
 ((((((A4 || K4) || (decide (x0 = 95))) || ((a2E && (!decide (x0 = 215))) && (!decide (x0 = 247)))) || (a2f && (!decide (x0 = 930)))) || a8p) = true →
 K 3 a9n) ∧
 ((((((A4 || K4) || (decide (x0 = 95))) || ((a2E && (!decide (x0 = 215))) && (!decide (x0 = 247)))) || (a2f && (!decide (x0 = 930)))) || a8p) = false →
 TL (0 : Int) a9n fun (s : Int) H n2 => O1 x0 ⟨#[59, 44, 123, 125, 40, 41, 91, 93, 61, 33, 60, 62, 43, 45, 42, 47, 37, 38, 124]⟩ s H n2 K))))))))))
theorem b7l (x0 : Int) {K : Int → Hp → Prop} (I : Inv w0 ps0 H0 H [] w) (hR : ∀ (r0 : Int) (H' : Hp) (w' : World) (_ : Inv w0 ps0 H0 H' [] w') (_ : K r0 H'), R (vi r0) w') (h : a4q x0 H K) : e6d (vi x0) w R E := by
 unfold a4q at h
 unfold e6d
 refine a7 (k7 _ _ _ _ _ _) ?_
 simp only [z2]
 refine a7 (Pu.g fun hb => by have d7 := hb; simp only [i6 d7]; exact (k7 _ _ _ _ _ _)) ?_
 refine a7 (M4 _ _) ?_
 simp only [z2]
 refine a7 (Pu.g fun hb => by have d7 := hb; simp only [i6 d7]; exact (k7 _ _ _ _ _ _)) ?_
 refine a7 (M4 _ _) ?_
 refine o2 (fun b0u => ?_) (fun b0u => ?_)
 ·replace h := h.1 b0u
  exact hR 1 H _ I h
 ·replace h := h.2 b0u
  refine a7 (k7 _ _ _ _ _ _) ?_
  refine k4 (fun b9n => ?_) (fun b9n => ?_)
  ·replace h := h.1 b9n
   exact hR 2 H _ I h
  ·replace h := h.2 b9n
   refine f7 (cap := []) (fun args w => Tryz.call156 args w) ?_
   refine k8 (Fi := []) (Fr := []) I (h) (fun v_5 H_1 F_6 w_2 I_3 l_8 k_4 q_7 => ?_) (fun _ _ _ _ _ q => q.elim)
   obtain ⟨J8, rfl, rfl, h⟩ := q_7
   refine o2 (fun a8d => ?_) (fun a8d => ?_)
   ·replace h := h.1 a8d
    exact hR 4 H_1 _ I_3 h
   ·replace h := h.2 a8d
    refine f7 (cap := []) (fun args w => Tryz.call156 args w) ?_
    refine k8 (Fi := []) (Fr := []) I_3 (h) (fun c8M a4w e4v S5 B1 c2V b6V c2W => ?_) (fun _ _ _ _ _ q => q.elim)
    obtain ⟨A4, rfl, rfl, h⟩ := c2W
    simp only [z2]
    refine a4I (D := fun c2X t8 => ∃ (K4 : Bool) (X7 : Hp) , c2X = (gv A4 false (vB K4)) ∧ (Inv w0 ps0 H0 X7 [] t8) ∧ (∀ i, i < S5.heap.size → ¬ inF [] i → t8.heap[i]? = S5.heap[i]?) ∧ Hle a4w X7 ∧ (TG (((A4 || K4) || (decide (x0 = 95))) = false) (A0 x0 192 591 X7) false X7 (fun (a2E : Bool) (b1b : Hp) =>
 TG ((((A4 || K4) || (decide (x0 = 95))) || ((a2E && (!decide (x0 = 215))) && (!decide (x0 = 247)))) = false) (A0 x0 913 969 b1b) false b1b (fun (a2f : Bool) (a8z : Hp) =>
 TG (((((A4 || K4) || (decide (x0 = 95))) || ((a2E && (!decide (x0 = 215))) && (!decide (x0 = 247)))) || (a2f && (!decide (x0 = 930)))) = false) (A0 x0 1040 1103 a8z) false a8z (fun (a8p : Bool) (a9n : Hp) =>
 ((((((A4 || K4) || (decide (x0 = 95))) || ((a2E && (!decide (x0 = 215))) && (!decide (x0 = 247)))) || (a2f && (!decide (x0 = 930)))) || a8p) = true →
 K 3 a9n) ∧
 ((((((A4 || K4) || (decide (x0 = 95))) || ((a2E && (!decide (x0 = 215))) && (!decide (x0 = 247)))) || (a2f && (!decide (x0 = 930)))) || a8p) = false →
 TL (0 : Int) a9n fun (s : Int) H n2 => O1 x0 ⟨#[59, 44, 123, 125, 40, 41, 91, 93, 61, 33, 60, 62, 43, 45, 42, 47, 37, 38, 124]⟩ s H n2 K)))))) (fun e0a => ?_) (fun e0a => ?_) ?_
    ·replace h := h.1 e0a
     have d7 := e0a
     simp only [i6 d7]
     refine f7 (cap := []) (fun args w => Tryz.call156 args w) ?_
     refine k8 (Fi := []) (Fr := []) B1 (h) (fun c2X X7 f3z t8 a0f c2Y b3g c8N => ?_) (fun _ _ _ _ _ q => q.elim)
     obtain ⟨K4, rfl, rfl, h⟩ := c8N
     exact ⟨K4, X7, by rfl, a0f, b3g, c2Y, h⟩
    ·exact ⟨false, a4w, by rw [a9I e0a], B1, fun _ _ _ => rfl, Hle.refl _, h.2 e0a⟩
    ·clear h
     rintro c2X t8 ⟨K4, X7, rfl, a0f, b3g, c2Y, h⟩
     refine a7 (M4 _ _) ?_
     simp only [z2]
     refine a7 (Pu.g fun hb => by have d7 := hb; simp only [i6 d7]; exact (k7 _ _ _ _ _ _)) ?_
     refine a7 (M4 _ _) ?_
     simp only [z2]
     refine a4I (D := fun e6f a6Y => ∃ (a2E : Bool) (b1b : Hp) , e6f = (gv ((A4 || K4) || (decide (x0 = 95))) false (vB a2E)) ∧ (Inv w0 ps0 H0 b1b [] a6Y) ∧ (∀ i, i < t8.heap.size → ¬ inF [] i → a6Y.heap[i]? = t8.heap[i]?) ∧ Hle X7 b1b ∧ (TG ((((A4 || K4) || (decide (x0 = 95))) || ((a2E && (!decide (x0 = 215))) && (!decide (x0 = 247)))) = false) (A0 x0 913 969 b1b) false b1b (fun (a2f : Bool) (a8z : Hp) =>
 TG (((((A4 || K4) || (decide (x0 = 95))) || ((a2E && (!decide (x0 = 215))) && (!decide (x0 = 247)))) || (a2f && (!decide (x0 = 930)))) = false) (A0 x0 1040 1103 a8z) false a8z (fun (a8p : Bool) (a9n : Hp) =>
 ((((((A4 || K4) || (decide (x0 = 95))) || ((a2E && (!decide (x0 = 215))) && (!decide (x0 = 247)))) || (a2f && (!decide (x0 = 930)))) || a8p) = true →
 K 3 a9n) ∧
 ((((((A4 || K4) || (decide (x0 = 95))) || ((a2E && (!decide (x0 = 215))) && (!decide (x0 = 247)))) || (a2f && (!decide (x0 = 930)))) || a8p) = false →
 TL (0 : Int) a9n fun (s : Int) H n2 => O1 x0 ⟨#[59, 44, 123, 125, 40, 41, 91, 93, 61, 33, 60, 62, 43, 45, 42, 47, 37, 38, 124]⟩ s H n2 K))))) (fun b5J => ?_) (fun b5J => ?_) ?_
     ·replace h := h.1 b5J
      have d7 := b5J
      simp only [i6 d7]
      refine f7 (cap := []) (fun args w => Tryz.call156 args w) ?_
      refine k8 (Fi := []) (Fr := []) a0f (h) (fun e6f b1b a9Q a6Y X3 c2R a9P f6k => ?_) (fun _ _ _ _ _ q => q.elim)
      obtain ⟨a2E, rfl, rfl, h⟩ := f6k
      exact ⟨a2E, b1b, by rfl, X3, a9P, c2R, h⟩
     ·exact ⟨false, X7, by rw [a9I b5J], a0f, fun _ _ _ => rfl, Hle.refl _, h.2 b5J⟩
     ·clear h
      rintro e6f a6Y ⟨a2E, b1b, rfl, X3, a9P, c2R, h⟩
      simp only [b1S, c1D]
      refine a7 (Pu.e (a8C _ _ _) (Pu.g fun hb => by obtain ⟨d7, a5u⟩ := b1R hb; simp only [i6 hb]; exact (P9 _ _ _ _ _ _))) ?_
      refine a7 (Pu.g fun hb => by have d7 := hb; simp only [i6 d7, b8l d7]; exact (w8 _ _)) ?_
      simp only [b1S, c1D]
      refine a7 (Pu.e (a8C _ _ _) (Pu.g fun hb => by obtain ⟨d7, a5u⟩ := b1R hb; simp only [i6 hb]; exact (P9 _ _ _ _ _ _))) ?_
      refine a7 (Pu.g fun hb => by have d7 := hb; simp only [i6 d7, b8l d7]; exact (w8 _ _)) ?_
      refine a7 (M4 _ _) ?_
      simp only [z2]
      refine a4I (D := fun e6g C2 => ∃ (a2f : Bool) (a8z : Hp) , e6g = (gv (((A4 || K4) || (decide (x0 = 95))) || ((a2E && (!decide (x0 = 215))) && (!decide (x0 = 247)))) false (vB a2f)) ∧ (Inv w0 ps0 H0 a8z [] C2) ∧ (∀ i, i < a6Y.heap.size → ¬ inF [] i → C2.heap[i]? = a6Y.heap[i]?) ∧ Hle b1b a8z ∧ (TG (((((A4 || K4) || (decide (x0 = 95))) || ((a2E && (!decide (x0 = 215))) && (!decide (x0 = 247)))) || (a2f && (!decide (x0 = 930)))) = false) (A0 x0 1040 1103 a8z) false a8z (fun (a8p : Bool) (a9n : Hp) =>
 ((((((A4 || K4) || (decide (x0 = 95))) || ((a2E && (!decide (x0 = 215))) && (!decide (x0 = 247)))) || (a2f && (!decide (x0 = 930)))) || a8p) = true →
 K 3 a9n) ∧
 ((((((A4 || K4) || (decide (x0 = 95))) || ((a2E && (!decide (x0 = 215))) && (!decide (x0 = 247)))) || (a2f && (!decide (x0 = 930)))) || a8p) = false →
 TL (0 : Int) a9n fun (s : Int) H n2 => O1 x0 ⟨#[59, 44, 123, 125, 40, 41, 91, 93, 61, 33, 60, 62, 43, 45, 42, 47, 37, 38, 124]⟩ s H n2 K)))) (fun e0b => ?_) (fun e0b => ?_) ?_
      ·replace h := h.1 e0b
       have d7 := e0b
       simp only [i6 d7]
       refine f7 (cap := []) (fun args w => Tryz.call156 args w) ?_
       refine k8 (Fi := []) (Fr := []) X3 (h) (fun e6g a8z j4c C2 b3v d3D f6l f6m => ?_) (fun _ _ _ _ _ q => q.elim)
       obtain ⟨a2f, rfl, rfl, h⟩ := f6m
       exact ⟨a2f, a8z, by rfl, b3v, f6l, d3D, h⟩
      ·exact ⟨false, b1b, by rw [a9I e0b], X3, fun _ _ _ => rfl, Hle.refl _, h.2 e0b⟩
      ·clear h
       rintro e6g C2 ⟨a2f, a8z, rfl, b3v, f6l, d3D, h⟩
       simp only [b1S, c1D]
       refine a7 (Pu.e (a8C _ _ _) (Pu.g fun hb => by obtain ⟨d7, a5u⟩ := b1R hb; simp only [i6 hb]; exact (P9 _ _ _ _ _ _))) ?_
       refine a7 (Pu.g fun hb => by have d7 := hb; simp only [i6 d7, b8l d7]; exact (w8 _ _)) ?_
       refine a7 (M4 _ _) ?_
       simp only [z2]
       refine a4I (D := fun f6n b8v => ∃ (a8p : Bool) (a9n : Hp) , f6n = (gv ((((A4 || K4) || (decide (x0 = 95))) || ((a2E && (!decide (x0 = 215))) && (!decide (x0 = 247)))) || (a2f && (!decide (x0 = 930)))) false (vB a8p)) ∧ (Inv w0 ps0 H0 a9n [] b8v) ∧ (∀ i, i < C2.heap.size → ¬ inF [] i → b8v.heap[i]? = C2.heap[i]?) ∧ Hle a8z a9n ∧ (((((((A4 || K4) || (decide (x0 = 95))) || ((a2E && (!decide (x0 = 215))) && (!decide (x0 = 247)))) || (a2f && (!decide (x0 = 930)))) || a8p) = true →
 K 3 a9n) ∧
 ((((((A4 || K4) || (decide (x0 = 95))) || ((a2E && (!decide (x0 = 215))) && (!decide (x0 = 247)))) || (a2f && (!decide (x0 = 930)))) || a8p) = false →
 TL (0 : Int) a9n fun (s : Int) H n2 => O1 x0 ⟨#[59, 44, 123, 125, 40, 41, 91, 93, 61, 33, 60, 62, 43, 45, 42, 47, 37, 38, 124]⟩ s H n2 K))) (fun e0c => ?_) (fun e0c => ?_) ?_
       ·replace h := h.1 e0c
        have d7 := e0c
        simp only [i6 d7]
        refine f7 (cap := []) (fun args w => Tryz.call156 args w) ?_
        refine k8 (Fi := []) (Fr := []) b3v (h) (fun f6n a9n k0M b8v e6h e5H h8P j4d => ?_) (fun _ _ _ _ _ q => q.elim)
        obtain ⟨a8p, rfl, rfl, h⟩ := j4d
        exact ⟨a8p, a9n, by rfl, e6h, h8P, e5H, h⟩
       ·exact ⟨false, a8z, by rw [a9I e0c], b3v, fun _ _ _ => rfl, Hle.refl _, h.2 e0c⟩
       ·clear h
        rintro f6n b8v ⟨a8p, a9n, rfl, e6h, h8P, e5H, h⟩
        refine a7 (M4 _ _) ?_
        refine o2 (fun c9u => ?_) (fun c9u => ?_)
        ·replace h := h.1 c9u
         exact hR 3 a9n _ e6h h
        ·replace h := h.2 c9u
         have hj1 : ∀ (H : Hp) (w : World) (_ : Inv w0 ps0 H0 H [] w) (_ : a3o H K), d3L w R E := by
          intro H w I h
          unfold d3L
          intro _
          unfold a3o at h
          exact hR 6 H _ I h
         refine r9 fun j1 hx1 => ?_
         obtain ⟨f6o, e0d, j4e, j4f⟩ := h
         refine A7 (J := fun n l w => ∃ (s : Int) (H : Hp) , n = e0d s ∧ l = [(vi s)] ∧ Inv w0 ps0 H0 H [] w ∧ f6o s H) ⟨_, 0, a9n, rfl, rfl, e6h, j4e⟩ ?_
         rintro k0N τ_64 w next2 ⟨O7, H, rfl, h8Q, I, j4g⟩ hn2
         simp only [List.map_cons, List.map_nil, List.cons.injEq, and_true] at h8Q
         have e4 := h8Q
         simp only [e4]
         obtain ⟨n2, hm2, h⟩ : ∃ n2 : Int → Hp → Prop, (∀ s' H', n2 s' H' → f6o s' H' ∧ e0d s' < e0d O7) ∧ O1 x0 ⟨#[59, 44, 123, 125, 40, 41, 91, 93, 61, 33, 60, 62, 43, 45, 42, 47, 37, 38, 124]⟩ O7 H n2 K := ⟨_, fun _ _ h => h, j4f O7 H (fun s' H' => f6o s' H' ∧ e0d s' < e0d O7) j4g (fun _ _ a b => ⟨a, b⟩)⟩
         unfold e2Y
         unfold O1 at h
         refine a7 (c2F _) ?_
         refine a7 (v7 _ _ _ _ _ _) ?_
         refine k4 (fun c9N => ?_) (fun c9N => ?_)
         ·replace h := h.1 c9N
          obtain ⟨c1j, b8N, h⟩ := h
          refine a7 (c1G _ _ _ c1j b8N) ?_
          refine a7 (c4R _ _) ?_
          refine a7 (k7 _ _ _ _ _ _) ?_
          refine k4 (fun f6p => ?_) (fun f6p => ?_)
          ·replace h := h.1 f6p
           exact hR 5 H _ I h
          ·replace h := h.2 f6p
           refine a7 (u7 _ _ _ _ _ _) ?_
           exact hn2 _ _ _ (hm2 _ _ h).2 ⟨(IntKind.wrap .i64 (O7 + 1)), H, rfl, rfl, I, (hm2 _ _ h).1⟩
         ·replace h := h.2 c9N
          exact hx1 _ _ (hj1 H _ I h)
theorem b7H (x0 : Int) {H : Hp} {K : Int → Hp → Prop} (h : a4q x0 H K) : a7q x0 H K := by
 intro w I
 refine g3K ?_
 refine b7l x0 I (fun r0 H' w' I' hk => ⟨H', _, I', r0, rfl, rfl, hk⟩) h
def p7 (v6 : Bool) (H : Hp) (K : Bool → Hp → Prop) : Prop :=
 (v6 = true →
 K true H) ∧
 (v6 = false →
 K false H)
def a5h (x0 : ByteArray) (H : Hp) (K : Bool → Hp → Prop) : Prop :=
 (x0 = ⟨#[118, 97, 114]⟩ →
 p7 (decide (x0 = ⟨#[118, 97, 114]⟩)) H K) ∧
 (¬ (x0 = ⟨#[118, 97, 114]⟩) →
 (x0 = ⟨#[97, 114, 114, 97, 121]⟩ →
 p7 (decide (x0 = ⟨#[97, 114, 114, 97, 121]⟩)) H K) ∧
 (¬ (x0 = ⟨#[97, 114, 114, 97, 121]⟩) →
 (x0 = ⟨#[105, 102]⟩ →
 p7 (decide (x0 = ⟨#[105, 102]⟩)) H K) ∧
 (¬ (x0 = ⟨#[105, 102]⟩) →
 (x0 = ⟨#[101, 108, 115, 101]⟩ →
 p7 (decide (x0 = ⟨#[101, 108, 115, 101]⟩)) H K) ∧
 (¬ (x0 = ⟨#[101, 108, 115, 101]⟩) →
 (x0 = ⟨#[119, 104, 105, 108, 101]⟩ →
 p7 (decide (x0 = ⟨#[119, 104, 105, 108, 101]⟩)) H K) ∧
 (¬ (x0 = ⟨#[119, 104, 105, 108, 101]⟩) →
 (x0 = ⟨#[97, 115, 115, 101, 114, 116]⟩ →
 p7 (decide (x0 = ⟨#[97, 115, 115, 101, 114, 116]⟩)) H K) ∧
 (¬ (x0 = ⟨#[97, 115, 115, 101, 114, 116]⟩) →
 (x0 = ⟨#[97, 115, 115, 117, 109, 101]⟩ →
 p7 (decide (x0 = ⟨#[97, 115, 115, 117, 109, 101]⟩)) H K) ∧
 (¬ (x0 = ⟨#[97, 115, 115, 117, 109, 101]⟩) →
 (x0 = ⟨#[115, 107, 105, 112]⟩ →
 p7 (decide (x0 = ⟨#[115, 107, 105, 112]⟩)) H K) ∧
 (¬ (x0 = ⟨#[115, 107, 105, 112]⟩) →
 (x0 = ⟨#[105, 110, 112, 117, 116]⟩ →
 p7 (decide (x0 = ⟨#[105, 110, 112, 117, 116]⟩)) H K) ∧
 (¬ (x0 = ⟨#[105, 110, 112, 117, 116]⟩) →
 (x0 = ⟨#[116, 114, 117, 101]⟩ →
 p7 (decide (x0 = ⟨#[116, 114, 117, 101]⟩)) H K) ∧
 (¬ (x0 = ⟨#[116, 114, 117, 101]⟩) →
 p7 (decide (x0 = ⟨#[102, 97, 108, 115, 101]⟩)) H K))))))))))
theorem b7I (x0 : ByteArray) {K : Bool → Hp → Prop} (I : Inv w0 ps0 H0 H [] w) (hR : ∀ (r0 : Bool) (H' : Hp) (w' : World) (_ : Inv w0 ps0 H0 H' [] w') (_ : K r0 H'), R (vB r0) w') (h : a5h x0 H K) : e6a (Value.string x0) w R E := by
 unfold a5h at h
 unfold e6a
 have hj1 : ∀ (v6 : Bool) (H : Hp) (w : World) (_ : Inv w0 ps0 H0 H [] w) (_ : p7 v6 H K), d3I (vB v6) w R E := by
  intro v6 H w I h
  unfold d3I
  intro _
  unfold p7 at h
  refine o2 (fun c_1 => ?_) (fun c_1 => ?_)
  ·replace h := h.1 c_1
   exact hR true H _ I h
  ·replace h := h.2 c_1
   exact hR false H _ I h
 refine r9 fun j1 hx1 => ?_
 refine a7 (W6 _ _ _ _ _) ?_
 refine k4 (fun b0t => ?_) (fun b0t => ?_)
 ·replace h := h.1 b0t
  exact hx1 _ _ (hj1 (decide (x0 = ⟨#[118, 97, 114]⟩)) H _ I h)
 ·replace h := h.2 b0t
  refine a7 (W6 _ _ _ _ _) ?_
  refine k4 (fun c9f => ?_) (fun c9f => ?_)
  ·replace h := h.1 c9f
   exact hx1 _ _ (hj1 (decide (x0 = ⟨#[97, 114, 114, 97, 121]⟩)) H _ I h)
  ·replace h := h.2 c9f
   refine a7 (W6 _ _ _ _ _) ?_
   refine k4 (fun c_9 => ?_) (fun c_9 => ?_)
   ·replace h := h.1 c_9
    exact hx1 _ _ (hj1 (decide (x0 = ⟨#[105, 102]⟩)) H _ I h)
   ·replace h := h.2 c_9
    refine a7 (W6 _ _ _ _ _) ?_
    refine k4 (fun c_8 => ?_) (fun c_8 => ?_)
    ·replace h := h.1 c_8
     exact hx1 _ _ (hj1 (decide (x0 = ⟨#[101, 108, 115, 101]⟩)) H _ I h)
    ·replace h := h.2 c_8
     refine a7 (W6 _ _ _ _ _) ?_
     refine k4 (fun c_7 => ?_) (fun c_7 => ?_)
     ·replace h := h.1 c_7
      exact hx1 _ _ (hj1 (decide (x0 = ⟨#[119, 104, 105, 108, 101]⟩)) H _ I h)
     ·replace h := h.2 c_7
      refine a7 (W6 _ _ _ _ _) ?_
      refine k4 (fun c_6 => ?_) (fun c_6 => ?_)
      ·replace h := h.1 c_6
       exact hx1 _ _ (hj1 (decide (x0 = ⟨#[97, 115, 115, 101, 114, 116]⟩)) H _ I h)
      ·replace h := h.2 c_6
       refine a7 (W6 _ _ _ _ _) ?_
       refine k4 (fun c_5 => ?_) (fun c_5 => ?_)
       ·replace h := h.1 c_5
        exact hx1 _ _ (hj1 (decide (x0 = ⟨#[97, 115, 115, 117, 109, 101]⟩)) H _ I h)
       ·replace h := h.2 c_5
        refine a7 (W6 _ _ _ _ _) ?_
        refine k4 (fun c_4 => ?_) (fun c_4 => ?_)
        ·replace h := h.1 c_4
         exact hx1 _ _ (hj1 (decide (x0 = ⟨#[115, 107, 105, 112]⟩)) H _ I h)
        ·replace h := h.2 c_4
         refine a7 (W6 _ _ _ _ _) ?_
         refine k4 (fun c_3 => ?_) (fun c_3 => ?_)
         ·replace h := h.1 c_3
          exact hx1 _ _ (hj1 (decide (x0 = ⟨#[105, 110, 112, 117, 116]⟩)) H _ I h)
         ·replace h := h.2 c_3
          refine a7 (W6 _ _ _ _ _) ?_
          refine k4 (fun c_2 => ?_) (fun c_2 => ?_)
          ·replace h := h.1 c_2
           exact hx1 _ _ (hj1 (decide (x0 = ⟨#[116, 114, 117, 101]⟩)) H _ I h)
          ·replace h := h.2 c_2
           refine a7 (W6 _ _ _ _ _) ?_
           exact hx1 _ _ (hj1 (decide (x0 = ⟨#[102, 97, 108, 115, 101]⟩)) H _ I h)
theorem b9C (x0 : ByteArray) {H : Hp} {K : Bool → Hp → Prop} (h : a5h x0 H K) : a8b x0 H K := by
 intro w I
 refine g3G ?_
 refine b7I x0 I (fun r0 H' w' I' hk => ⟨H', _, I', r0, rfl, rfl, hk⟩) h
def a3M (a4z : Int) (H : Hp) (K : Bool → Hp → Prop) : Prop :=
 K (decide (a4z ≤ 32)) H
def a0w (b6X : ByteArray) (a3I : Int) (O7 : Int) (H : Hp) (n2 : (Int × Int) → Hp → Prop) (K : Bool → Hp → Prop) : Prop :=
 (O7 < (b6X.size : Int) →
 a8a b6X O7 H (fun (A4 : Int) (d4T : Int) (d4U : Bool) (a4w : Hp) =>
 a7q A4 a4w (fun (K4 : Int) (X7 : Hp) =>
 (((!d4U) || ((!decide (K4 = 3)) && ((!decide (K4 = 4)) || (decide (a3I = 0))))) = true →
 K false X7) ∧
 (((!d4U) || ((!decide (K4 = 3)) && ((!decide (K4 = 4)) || (decide (a3I = 0))))) = false →
 n2 ((IntKind.wrap .i64 (a3I + 1)), (IntKind.wrap .i64 (O7 + d4T))) X7)))) ∧
 (¬ (O7 < (b6X.size : Int)) →
 a3M a3I H K)
def a5i (x0 : ByteArray) (H : Hp) (K : Bool → Hp → Prop) : Prop :=
 TG (((decide (x0 = ⟨#[]⟩)) || (decide (128 < (x0.size : Int)))) = false) (a8b x0 H) false H (fun (J8 : Bool) (H_1 : Hp) =>
 ((((decide (x0 = ⟨#[]⟩)) || (decide (128 < (x0.size : Int)))) || J8) = true →
 K false H_1) ∧
 ((((decide (x0 = ⟨#[]⟩)) || (decide (128 < (x0.size : Int)))) || J8) = false →
 TL ((0, 0) : Int × Int) H_1 fun (s : Int × Int) H n2 => a0w x0 s.1 s.2 H n2 K))
theorem b7J (x0 : ByteArray) {K : Bool → Hp → Prop} (I : Inv w0 ps0 H0 H [] w) (hR : ∀ (r0 : Bool) (H' : Hp) (w' : World) (_ : Inv w0 ps0 H0 H' [] w') (_ : K r0 H'), R (vB r0) w') (h : a5i x0 H K) : F86 (Value.string x0) w R E := by
 unfold a5i at h
 unfold F86
 refine a7 (W6 _ _ _ _ _) ?_
 simp only [z2]
 refine a7 (Pu.g fun hb => by have d7 := hb; simp only [i6 d7]; exact (c2F _)) ?_
 refine a7 (Pu.g fun hb => by have d7 := hb; simp only [i6 d7]; exact (a7Q _ _ _ _ _ _)) ?_
 refine a7 (M4 _ _) ?_
 simp only [z2]
 refine a4I (D := fun v_5 w_2 => ∃ (J8 : Bool) (H_1 : Hp) , v_5 = (gv ((decide (x0 = ⟨#[]⟩)) || (decide (128 < (x0.size : Int)))) false (vB J8)) ∧ (Inv w0 ps0 H0 H_1 [] w_2) ∧ (∀ i, i < w.heap.size → ¬ inF [] i → w_2.heap[i]? = w.heap[i]?) ∧ Hle H H_1 ∧ (((((decide (x0 = ⟨#[]⟩)) || (decide (128 < (x0.size : Int)))) || J8) = true →
 K false H_1) ∧
 ((((decide (x0 = ⟨#[]⟩)) || (decide (128 < (x0.size : Int)))) || J8) = false →
 TL ((0, 0) : Int × Int) H_1 fun (s : Int × Int) H n2 => a0w x0 s.1 s.2 H n2 K))) (fun e0e => ?_) (fun e0e => ?_) ?_
 ·replace h := h.1 e0e
  have d7 := e0e
  simp only [i6 d7]
  refine f7 (cap := []) (fun args w => Tryz.call122 args w) ?_
  refine k8 (Fi := []) (Fr := []) I (h) (fun v_5 H_1 F_6 w_2 I_3 l_8 k_4 q_7 => ?_) (fun _ _ _ _ _ q => q.elim)
  obtain ⟨J8, rfl, rfl, h⟩ := q_7
  exact ⟨J8, H_1, by rfl, I_3, k_4, l_8, h⟩
 ·exact ⟨false, H, by rw [a9I e0e], I, fun _ _ _ => rfl, Hle.refl _, h.2 e0e⟩
 ·clear h
  rintro v_5 w_2 ⟨J8, H_1, rfl, I_3, k_4, l_8, h⟩
  refine a7 (M4 _ _) ?_
  refine o2 (fun c9O => ?_) (fun c9O => ?_)
  ·replace h := h.1 c9O
   exact hR false H_1 _ I_3 h
  ·replace h := h.2 c9O
   have hj1 : ∀ (a4z : Int) (H : Hp) (w : World) (_ : Inv w0 ps0 H0 H [] w) (_ : a3M a4z H K), d9v (vi a4z) w R E := by
    intro a4z H w I h
    unfold d9v
    intro _
    unfold a3M at h
    refine a7 (b4a _ _ _ _ _ _) ?_
    exact hR (decide (a4z ≤ 32)) H _ I h
   refine r9 fun j1 hx1 => ?_
   obtain ⟨f6q, e0f, j4h, j4i⟩ := h
   refine A7 (J := fun n l w => ∃ (s : Int × Int) (H : Hp) , n = e0f s ∧ l = (match s with | (a3I, O7) => [(vi a3I), (vi O7)]) ∧ (match s with | (a3I, O7) => Inv w0 ps0 H0 H [] w) ∧ f6q s H) ⟨_, (0, 0), H_1, rfl, rfl, I_3, j4h⟩ ?_
   rintro k0O τ_35 w next2 ⟨⟨a3I, O7⟩, H, rfl, c9o, I, j4j⟩ hn2
   dsimp only at c9o I
   simp only [List.map_cons, List.map_nil, List.cons.injEq, and_true] at c9o
   obtain ⟨e3, e4⟩ := c9o
   simp only [e3, e4]
   obtain ⟨n2, hm2, h⟩ : ∃ n2 : (Int × Int) → Hp → Prop, (∀ s' H', n2 s' H' → f6q s' H' ∧ e0f s' < e0f (a3I, O7)) ∧ a0w x0 a3I O7 H n2 K := ⟨_, fun _ _ h => h, j4i (a3I, O7) H (fun s' H' => f6q s' H' ∧ e0f s' < e0f (a3I, O7)) j4j (fun _ _ a b => ⟨a, b⟩)⟩
   unfold f1J
   unfold a0w at h
   refine a7 (c2F _) ?_
   refine a7 (v7 _ _ _ _ _ _) ?_
   refine k4 (fun b8T => ?_) (fun b8T => ?_)
   ·replace h := h.1 b8T
    refine f7 (cap := []) (fun args w => Tryz.call123 args w) ?_
    refine k8 (Fi := []) (Fr := []) I (h) (fun c8M a4w e4v S5 B1 c2V b6V c2W => ?_) (fun _ _ _ _ _ q => q.elim)
    obtain ⟨A4, d4T, d4U, rfl, rfl, h⟩ := c2W
    refine a7 (r6 _ _ (vi A4) rfl) ?_
    refine a7 (r6 _ _ (vi d4T) rfl) ?_
    refine a7 (r6 _ _ (vB d4U) rfl) ?_
    refine f7 (cap := []) (fun args w => Tryz.call124 args w) ?_
    refine k8 (Fi := []) (Fr := []) B1 (h) (fun c2X X7 f3z t8 a0f c2Y b3g c8N => ?_) (fun _ _ _ _ _ q => q.elim)
    obtain ⟨K4, rfl, rfl, h⟩ := c8N
    refine a7 (T4 _) ?_
    simp only [z2]
    refine a7 (Pu.g fun hb => by have d7 := hb; simp only [i6 d7]; exact (P9 _ _ _ _ _ _)) ?_
    simp only [b1S, c1D]
    refine a7 (Pu.e (a8C _ _ _) (Pu.g fun hb => by obtain ⟨d7, a5u⟩ := b1R hb; simp only [i6 hb]; exact (P9 _ _ _ _ _ _))) ?_
    simp only [b1S, e9R]
    refine a7 (Pu.e (a6O _ _ _) (Pu.g fun hb => by obtain ⟨c9P, f6r⟩ := a8H hb; obtain ⟨d7, a5u⟩ := b1R c9P; simp only [i6 hb]; exact (k7 _ _ _ _ _ _))) ?_
    refine a7 (Pu.e (a8C _ _ _) (Pu.g fun hb => by obtain ⟨d7, a5u⟩ := b1R hb; simp only [i6 hb, c4L hb]; exact (M4 _ _))) ?_
    refine a7 (Pu.g fun hb => by have d7 := hb; simp only [i6 d7, b8l d7]; exact (w8 _ _)) ?_
    refine a7 (M4 _ _) ?_
    refine o2 (fun c9Q => ?_) (fun c9Q => ?_)
    ·replace h := h.1 c9Q
     exact hR false X7 _ a0f h
    ·replace h := h.2 c9Q
     refine a7 (u7 _ _ _ _ _ _) ?_
     refine a7 (u7 _ _ _ _ _ _) ?_
     exact hn2 _ _ _ (hm2 _ _ h).2 ⟨((IntKind.wrap .i64 (a3I + 1)), (IntKind.wrap .i64 (O7 + d4T))), X7, rfl, rfl, a0f, (hm2 _ _ h).1⟩
   ·replace h := h.2 b8T
    exact hx1 _ _ (hj1 a3I H _ I h)
theorem b9D (x0 : ByteArray) {H : Hp} {K : Bool → Hp → Prop} (h : a5i x0 H K) : a4U x0 H K := by
 intro w I
 refine h6P ?_
 refine b7J x0 I (fun r0 H' w' I' hk => ⟨H', _, I', r0, rfl, rfl, hk⟩) h
def a2F (x0 : b9) (x1 : ByteArray) (x2 : Bool) (H : Hp) (K : b9 → Hp → Prop) : Prop :=
 ((!x2) = true →
 K (b9.mk (x0.fok && (decide (x1 = ⟨#[]⟩))) x0.fnames) H) ∧
 ((!x2) = false →
 TG (x0.fnames = true) (a4U x1 H) false H (fun (b6m : Bool) (H_4 : Hp) =>
 K (b9.mk x0.fok (x0.fnames && b6m)) H_4))
theorem b4O (x0 : b9) (x1 : ByteArray) (x2 : Bool) (g0 : Nat) {K : b9 → Hp → Prop} (I : Inv w0 ps0 H0 H [bx g0 111 (k3 x0)] w) (hR : ∀ (y0 : b9) (H' : Hp) (w' : World) (_ : Inv w0 ps0 H0 H' [bx g0 111 (k3 y0)] w') (_ : K y0 H'), R (Value.tuple #[]) w') (h : a2F x0 x1 x2 H K) : F48 (Value.pointer (some ⟨g0, 0, none⟩)) (Value.string x1) (vB x2) w R E := by
 unfold a2F at h
 unfold F48
 refine a7 (T4 _) ?_
 refine o2 (fun b3x => ?_) (fun b3x => ?_)
 ·replace h := h.1 b3x
  refine a7 (w7 _) ?_
  refine a7 N8 ?_
  refine f2 (ld1 Tryz.isAgg4 (I.at1 (o := 0) (vs := [(vB x0.fok)]) (nb rfl) rfl)) ?_
  simp only [z2]
  refine a7 (Pu.g fun hb => by have d7 := hb; simp only [i6 d7]; exact (W6 _ _ _ _ _)) ?_
  refine a7 (w8 _ _) ?_
  refine a7 (w7 _) ?_
  refine a7 N8 ?_
  refine m5 I Tryz.sizeOf4 (vs := [(vB (x0.fok && (decide (x1 = ⟨#[]⟩))))]) (cs' := [(vB (x0.fok && (decide (x1 = ⟨#[]⟩)))), (vB x0.fnames)]) rfl rfl (nb rfl) rfl rfl fun w_1 I_2 k_3 => ?_
  exact hR (b9.mk (x0.fok && (decide (x1 = ⟨#[]⟩))) x0.fnames) H _ I_2 h
 ·replace h := h.2 b3x
  refine a7 (w7 _) ?_
  refine a7 c0M ?_
  refine f2 (ld1 Tryz.isAgg4 (I.at1 (o := 1) (vs := [(vB x0.fnames)]) (nb rfl) rfl)) ?_
  simp only [z2]
  refine a4I (D := fun v_8 w_5 => ∃ (b6m : Bool) (H_4 : Hp) , v_8 = (gv x0.fnames true (vB b6m)) ∧ (Inv w0 ps0 H0 H_4 [bx g0 111 (k3 x0)] w_5) ∧ (∀ i, i < w.heap.size → ¬ inF [] i → w_5.heap[i]? = w.heap[i]?) ∧ Hle H H_4 ∧ (K (b9.mk x0.fok (x0.fnames && b6m)) H_4)) (fun e0g => ?_) (fun e0g => ?_) ?_
  ·replace h := h.1 e0g
   have d7 := e0g
   simp only [i6 d7]
   refine f7 (cap := []) (fun args w => Tryz.call86 args w) ?_
   refine k8 (Fi := []) (Fr := [bx g0 111 (k3 x0)]) I (h) (fun v_8 H_4 F_9 w_5 I_6 c8K k_7 j4k => ?_) (fun _ _ _ _ _ q => q.elim)
   obtain ⟨b6m, rfl, rfl, h⟩ := j4k
   exact ⟨b6m, H_4, by rfl, I_6, k_7, c8K, h⟩
  ·exact ⟨false, H, by rw [a9I e0g], I, fun _ _ _ => rfl, Hle.refl _, h.2 e0g⟩
  ·clear h
   rintro v_8 w_5 ⟨b6m, H_4, rfl, I_6, k_7, c8K, h⟩
   refine a7 (w8 _ _) ?_
   refine a7 (w7 _) ?_
   refine a7 c0M ?_
   refine m5 I_6 Tryz.sizeOf4 (vs := [(vB (x0.fnames && b6m))]) (cs' := [(vB x0.fok), (vB (x0.fnames && b6m))]) rfl rfl (nb rfl) rfl rfl fun a3F P1 a4W => ?_
   exact hR (b9.mk x0.fok (x0.fnames && b6m)) H_4 _ P1 h
theorem b5m (x0 : b9) (x1 : ByteArray) (x2 : Bool) {H : Hp} {K : b9 → Hp → Prop} (h : a2F x0 x1 x2 H K) : Y5 x0 x1 x2 H K := by
 intro g0 w I
 refine h5Y ?_
 refine b4O x0 x1 x2 g0 I (fun y0 H' w' I' hk => ⟨H', _, I', y0, rfl, rfl, hk⟩) h
def a1e (S6 : a8) (I5 : Int) (N7 : b9) (H : Hp) (n2 : (Int × b9) → Hp → Prop) (K : b9 → Hp → Prop) : Prop :=
 (((decide (I5 < (S6.k9.n : Int))) && N7.fok) = true →
 (0 : Int) ≤ I5 ∧ (I5 : Int) < S6.k9.n ∧ ∃ e6i : a8, EltH H S6.k9 I5 4 (b8 e6i) ∧
 Y6 N7 e6i H (fun (e6j : b9) (f6s : Hp) =>
 n2 ((IntKind.wrap .i64 (I5 + 1)), e6j) f6s)) ∧
 (((decide (I5 < (S6.k9.n : Int))) && N7.fok) = false →
 K N7 H)
def K2 (v6 : Int) (p9 : a8) (K5 : b9) (H : Hp) (K : b9 → Hp → Prop) : Prop :=
 Y5 K5 p9.f6 ((decide (p9.b6 = 2)) || (decide (p9.b6 = 4))) H (fun (U7 : b9) (H_6 : Hp) =>
 TL ((0, (b9.mk ((U7.fok && (decide ((p9.k9.n : Int) = v6))) && ((decide (p9.o6 = 0)) || ((decide (p9.b6 = 1)) && (decide (0 < p9.o6))))) U7.fnames)) : Int × b9) H_6 fun (s : Int × b9) H n2 => a1e p9 s.1 s.2 H n2 K)
def C8 (j4l : Int) (c7p : Bool) (f1O : a8) (f8w : b9) (H : Hp) (K : b9 → Hp → Prop) : Prop :=
 (c7p = true →
 K2 2 f1O f8w H K) ∧
 (c7p = false →
 K2 j4l f1O (b9.mk false f8w.fnames) H K)
def Q7 (e0h : Int) (b5Z : Int) (c7q : Bool) (b4G : a8) (b2e : b9) (H : Hp) (K : b9 → Hp → Prop) : Prop :=
 (c7q = true →
 K2 1 b4G b2e H K) ∧
 (c7q = false →
 (b5Z = 6 →
 C8 e0h (decide (b5Z = 6)) b4G b2e H K) ∧
 (¬ (b5Z = 6) →
 (b5Z = 7 →
 C8 e0h (decide (b5Z = 7)) b4G b2e H K) ∧
 (¬ (b5Z = 7) →
 (b5Z = 8 →
 C8 e0h (decide (b5Z = 8)) b4G b2e H K) ∧
 (¬ (b5Z = 8) →
 (b5Z = 9 →
 C8 e0h (decide (b5Z = 9)) b4G b2e H K) ∧
 (¬ (b5Z = 9) →
 C8 e0h (decide (b5Z = 10)) b4G b2e H K)))))
def N6 (f6t : Int) (c6q : Int) (c3V : Bool) (S7 : a8) (a0U : b9) (H : Hp) (K : b9 → Hp → Prop) : Prop :=
 (c3V = true →
 K2 f6t S7 a0U H K) ∧
 (c3V = false →
 (c6q = 4 →
 Q7 f6t c6q (decide (c6q = 4)) S7 a0U H K) ∧
 (¬ (c6q = 4) →
 Q7 f6t c6q (decide (c6q = 5)) S7 a0U H K))
def a2G (x0 : b9) (x1 : a8) (H : Hp) (K : b9 → Hp → Prop) : Prop :=
 (x1.b6 = 1 →
 N6 0 x1.b6 (decide (x1.b6 = 1)) x1 x0 H K) ∧
 (¬ (x1.b6 = 1) →
 (x1.b6 = 2 →
 N6 0 x1.b6 (decide (x1.b6 = 2)) x1 x0 H K) ∧
 (¬ (x1.b6 = 2) →
 N6 0 x1.b6 (decide (x1.b6 = 3)) x1 x0 H K))
theorem b4P (x0 : b9) (x1 : a8) (g0 : Nat) {K : b9 → Hp → Prop} (I : Inv w0 ps0 H0 H [bx g0 111 (k3 x0)] w) (hR : ∀ (y0 : b9) (H' : Hp) (w' : World) (_ : Inv w0 ps0 H0 H' [bx g0 111 (k3 y0)] w') (_ : K y0 H'), R (Value.tuple #[]) w') (h : a2G x0 x1 H K) : F88 (Value.pointer (some ⟨g0, 0, none⟩)) (Value.agg (b8 x1).toArray) w R E := by
 unfold a2G at h
 unfold F88
 refine K6 I (cs := (b8 x1)) rfl fun g_2 w_3 I_4 k_5 => ?_
 have hj1 : ∀ (v6 : Int) (K5 : b9) (H : Hp) (w : World) (_ : Inv w0 ps0 H0 H [bx g_2 53 (b8 x1), bx g0 111 (k3 K5)] w) (_ : K2 v6 x1 K5 H K), d9H (Value.pointer (some ⟨g0, 0, none⟩)) (Value.pointer (some ⟨g_2, 0, none⟩)) (vi v6) w R E := by
  intro v6 K5 H w I h
  unfold d9H
  intro _
  unfold K2 at h
  refine a7 b1W ?_
  refine f2 (ld1 Tryz.isAgg9 (I.at1 (o := 2) (vs := [(Value.string x1.f6)]) (nb rfl) rfl)) ?_
  refine a7 U5 ?_
  refine f2 (ld1 Tryz.isAgg3 (I.at1 (o := 0) (vs := [(vi x1.b6)]) (nb rfl) rfl)) ?_
  refine a7 (k7 _ _ _ _ _ _) ?_
  refine a7 (Pu.g fun hb => by have d7 := hb; exact U5) ?_
  refine f2 (Ld.g fun hb => by have d7 := hb; simp only [i6 d7]; exact (ld1 Tryz.isAgg3 (I.at1 (o := 0) (vs := [(vi x1.b6)]) (nb rfl) rfl))) ?_
  refine a7 (Pu.g fun hb => by have d7 := hb; simp only [i6 d7]; exact (k7 _ _ _ _ _ _)) ?_
  refine a7 (M4 _ _) ?_
  refine f7 (cap := []) (fun args w => Tryz.call48 args w) ?_
  refine k8 (Fi := [bx g0 111 (k3 K5)]) (Fr := [bx g_2 53 (b8 x1)]) (I.bring 1) (h g0) (fun b6Z H_6 b7a w_7 I_8 b7b k_9 a7c => ?_) (fun _ _ _ _ _ q => q.elim)
  obtain ⟨U7, rfl, rfl, h⟩ := a7c
  refine a7 (w7 _) ?_
  refine a7 N8 ?_
  refine f2 (ld1 Tryz.isAgg4 (I_8.at1 (o := 0) (vs := [(vB U7.fok)]) (nb rfl) rfl)) ?_
  refine a7 (Pu.g fun hb => by have d7 := hb; exact B2) ?_
  refine f2 (Ld.g fun hb => by have d7 := hb; simp only [i6 d7]; exact (ld1 Tryz.isAgg51 ((I_8.bring 1).at1 (o := 3) (vs := [(vs x1.k9)]) (nb rfl) rfl))) ?_
  refine a7 (Pu.g fun hb => by have d7 := hb; simp only [i6 d7]; exact (K0 _ _ _)) ?_
  simp only [z2]
  refine a7 (Pu.g fun hb => by have d7 := hb; simp only [i6 d7]; exact (k7 _ _ _ _ _ _)) ?_
  refine a7 (w8 _ _) ?_
  refine a7 (Pu.g fun hb => by have d7 := hb; exact a6p) ?_
  refine f2 (Ld.g fun hb => by have d7 := hb; simp only [i6 d7]; exact (ld1 Tryz.isAgg2 ((I_8.bring 1).at1 (o := 1) (vs := [(vi x1.o6)]) (nb rfl) rfl))) ?_
  refine a7 (Pu.g fun hb => by have d7 := hb; simp only [i6 d7]; exact (k7 _ _ _ _ _ _)) ?_
  simp only [z2, b1S, e9R]
  refine a7 (Pu.e (a6O _ _ _) (Pu.g fun hb => by obtain ⟨d7, a5u⟩ := a8H hb; exact U5)) ?_
  refine f2 (Ld.e (a6O _ _ _) (Ld.g fun hb => by obtain ⟨d7, a5u⟩ := a8H hb; simp only [i6 hb]; exact (ld1 Tryz.isAgg3 ((I_8.bring 1).at1 (o := 0) (vs := [(vi x1.b6)]) (nb rfl) rfl)))) ?_
  refine a7 (Pu.e (a6O _ _ _) (Pu.g fun hb => by obtain ⟨d7, a5u⟩ := a8H hb; simp only [i6 hb]; exact (k7 _ _ _ _ _ _))) ?_
  simp only [b1S]
  refine a7 (Pu.e (d2K _ _ _) (Pu.g fun hb => by obtain ⟨c9P, f6r⟩ := e3A hb; obtain ⟨d7, a5u⟩ := a8H c9P; exact a6p)) ?_
  refine f2 (Ld.e (d2K _ _ _) (Ld.g fun hb => by obtain ⟨c9P, f6r⟩ := e3A hb; obtain ⟨d7, a5u⟩ := a8H c9P; simp only [i6 hb]; exact (ld1 Tryz.isAgg2 ((I_8.bring 1).at1 (o := 1) (vs := [(vi x1.o6)]) (nb rfl) rfl)))) ?_
  refine a7 (Pu.e (d2K _ _ _) (Pu.g fun hb => by obtain ⟨c9P, f6r⟩ := e3A hb; obtain ⟨d7, a5u⟩ := a8H c9P; simp only [i6 hb]; exact (a7Q _ _ _ _ _ _))) ?_
  refine a7 (Pu.e (a6O _ _ _) (Pu.g fun hb => by obtain ⟨d7, a5u⟩ := a8H hb; simp only [i6 hb, g7i hb]; exact (w8 _ _))) ?_
  refine a7 (Pu.g fun hb => by have d7 := hb; simp only [i6 d7, c4L d7]; exact (M4 _ _)) ?_
  refine a7 (w8 _ _) ?_
  refine a7 (w7 _) ?_
  refine a7 N8 ?_
  refine m5 I_8 Tryz.sizeOf4 (vs := [(vB ((U7.fok && (decide ((x1.k9.n : Int) = v6))) && ((decide (x1.o6 = 0)) || ((decide (x1.b6 = 1)) && (decide (0 < x1.o6))))))]) (cs' := [(vB ((U7.fok && (decide ((x1.k9.n : Int) = v6))) && ((decide (x1.o6 = 0)) || ((decide (x1.b6 = 1)) && (decide (0 < x1.o6)))))), (vB U7.fnames)]) rfl rfl (nb rfl) rfl rfl fun c2J f6u j4m => ?_
  obtain ⟨f6v, e0i, j4n, j4o⟩ := h
  refine A7 (J := fun n l w => ∃ (s : Int × b9) (H : Hp) , n = e0i s ∧ l = (match s with | (I5, N7) => [(vi I5)]) ∧ (match s with | (I5, N7) => Inv w0 ps0 H0 H [bx g0 111 (k3 N7), bx g_2 53 (b8 x1)] w) ∧ f6v s H) ⟨_, (0, (b9.mk ((U7.fok && (decide ((x1.k9.n : Int) = v6))) && ((decide (x1.o6 = 0)) || ((decide (x1.b6 = 1)) && (decide (0 < x1.o6))))) U7.fnames)), H_6, rfl, rfl, ((f6u.bring 1).bring 1), j4n⟩ ?_
  rintro k0P τ_65 w next2 ⟨⟨I5, N7⟩, H, rfl, f6w, I, f6x⟩ hn2
  dsimp only at f6w I
  simp only [List.map_cons, List.map_nil, List.cons.injEq, and_true] at f6w
  have e5 := f6w
  simp only [e5]
  obtain ⟨n2, hm2, h⟩ : ∃ n2 : (Int × b9) → Hp → Prop, (∀ s' H', n2 s' H' → f6v s' H' ∧ e0i s' < e0i (I5, N7)) ∧ a1e x1 I5 N7 H n2 K := ⟨_, fun _ _ h => h, j4o (I5, N7) H (fun s' H' => f6v s' H' ∧ e0i s' < e0i (I5, N7)) f6x (fun _ _ a b => ⟨a, b⟩)⟩
  unfold f1N
  unfold a1e at h
  refine a7 B2 ?_
  refine f2 (ld1 Tryz.isAgg51 ((I.bring 1).at1 (o := 3) (vs := [(vs x1.k9)]) (nb rfl) rfl)) ?_
  refine a7 (K0 _ _ _) ?_
  refine a7 (v7 _ _ _ _ _ _) ?_
  simp only [z2]
  refine a7 (Pu.g fun hb => by have d7 := hb; simp only [i6 d7]; exact (w7 _)) ?_
  refine a7 (Pu.g fun hb => by have d7 := hb; simp only [i6 d7]; exact N8) ?_
  refine f2 (Ld.g fun hb => by have d7 := hb; simp only [i6 d7]; exact (ld1 Tryz.isAgg4 (I.at1 (o := 0) (vs := [(vB N7.fok)]) (nb rfl) rfl))) ?_
  refine a7 (w8 _ _) ?_
  refine o2 (fun c9R => ?_) (fun c9R => ?_)
  ·replace h := h.1 c9R
   refine a7 B2 ?_
   refine f2 (ld1 Tryz.isAgg51 ((I.bring 1).at1 (o := 3) (vs := [(vs x1.k9)]) (nb rfl) rfl)) ?_
   obtain ⟨b8Z, f6y, e6i, c9H, h⟩ := h
   obtain ⟨k0Q, k0R, d8O, c9H⟩ := c9H
   refine a7 (G7 d8O _ _ _ _ b8Z f6y) ?_
   refine f2 (ldA (vs := (b8 e6i)) Tryz.isAgg53 Tryz.sizeOf53 rfl (I.atH c9H)) ?_
   refine f7 (cap := []) (fun args w => Tryz.call88 args w) ?_
   refine k8 (Fi := [bx g0 111 (k3 N7)]) (Fr := [bx g_2 53 (b8 x1)]) I (h g0) (fun k0S f6s k0T b4f c3j k0U k0V j4p => ?_) (fun _ _ _ _ _ q => q.elim)
   obtain ⟨e6j, rfl, rfl, h⟩ := j4p
   refine a7 (u7 _ _ _ _ _ _) ?_
   exact hn2 _ _ _ (hm2 _ _ h).2 ⟨((IntKind.wrap .i64 (I5 + 1)), e6j), f6s, rfl, rfl, ((c3j.bring 1).bring 1), (hm2 _ _ h).1⟩
  ·replace h := h.2 c9R
   exact hR N7 H _ (I.bring 1).drop h
 refine r9 fun j1 hx1 => ?_
 refine a7 U5 ?_
 refine f2 (ld1 Tryz.isAgg3 (I_4.at1 (o := 0) (vs := [(vi x1.b6)]) (nb rfl) rfl)) ?_
 have hj3 : ∀ (c3V : Bool) (H : Hp) (w : World) (_ : Inv w0 ps0 H0 H [bx g_2 53 (b8 x1), bx g0 111 (k3 x0)] w) (_ : N6 0 x1.b6 c3V x1 x0 H K), d9P (Value.pointer (some ⟨g0, 0, none⟩)) (Value.pointer (some ⟨g_2, 0, none⟩)) (vi 0) (vi x1.b6) (vB c3V) w j1 R E := by
  intro c3V H w I h
  unfold d9P
  intro _
  unfold N6 at h
  refine o2 (fun c9A => ?_) (fun c9A => ?_)
  ·replace h := h.1 c9A
   exact hx1 _ _ (hj1 0 x0 H _ ((I.bring 1).bring 1) h)
  ·replace h := h.2 c9A
   have hj4 : ∀ (c7q : Bool) (H : Hp) (w : World) (_ : Inv w0 ps0 H0 H [bx g_2 53 (b8 x1), bx g0 111 (k3 x0)] w) (_ : Q7 0 x1.b6 c7q x1 x0 H K), d9O (Value.pointer (some ⟨g0, 0, none⟩)) (Value.pointer (some ⟨g_2, 0, none⟩)) (vi 0) (vi x1.b6) (vB c7q) w j1 R E := by
    intro c7q H w I h
    unfold d9O
    intro _
    unfold Q7 at h
    refine o2 (fun b8O => ?_) (fun b8O => ?_)
    ·replace h := h.1 b8O
     exact hx1 _ _ (hj1 1 x0 H _ ((I.bring 1).bring 1) h)
    ·replace h := h.2 b8O
     have hj5 : ∀ (c7p : Bool) (H : Hp) (w : World) (_ : Inv w0 ps0 H0 H [bx g_2 53 (b8 x1), bx g0 111 (k3 x0)] w) (_ : C8 0 c7p x1 x0 H K), d9N (Value.pointer (some ⟨g0, 0, none⟩)) (Value.pointer (some ⟨g_2, 0, none⟩)) (vi 0) (vB c7p) w j1 R E := by
      intro c7p H w I h
      unfold d9N
      intro _
      unfold C8 at h
      refine o2 (fun b9d => ?_) (fun b9d => ?_)
      ·replace h := h.1 b9d
       exact hx1 _ _ (hj1 2 x0 H _ ((I.bring 1).bring 1) h)
      ·replace h := h.2 b9d
       refine a7 (w7 _) ?_
       refine a7 N8 ?_
       refine m5 (I.bring 1) Tryz.sizeOf4 (vs := [(vB false)]) (cs' := [(vB false), (vB x0.fnames)]) rfl rfl (nb rfl) rfl rfl fun Z9 d3y h4F => ?_
       exact hx1 _ _ (hj1 0 (b9.mk false x0.fnames) H _ (d3y.bring 1) h)
     refine r9 fun j5 hx5 => ?_
     refine a7 (k7 _ _ _ _ _ _) ?_
     refine k4 (fun b9c => ?_) (fun b9c => ?_)
     ·replace h := h.1 b9c
      exact hx5 _ _ (hj5 (decide (x1.b6 = 6)) H _ ((I.bring 1).bring 1) h)
     ·replace h := h.2 b9c
      refine a7 (k7 _ _ _ _ _ _) ?_
      refine k4 (fun b0u => ?_) (fun b0u => ?_)
      ·replace h := h.1 b0u
       exact hx5 _ _ (hj5 (decide (x1.b6 = 7)) H _ ((I.bring 1).bring 1) h)
      ·replace h := h.2 b0u
       refine a7 (k7 _ _ _ _ _ _) ?_
       refine k4 (fun b9n => ?_) (fun b9n => ?_)
       ·replace h := h.1 b9n
        exact hx5 _ _ (hj5 (decide (x1.b6 = 8)) H _ ((I.bring 1).bring 1) h)
       ·replace h := h.2 b9n
        refine a7 (k7 _ _ _ _ _ _) ?_
        refine k4 (fun a8d => ?_) (fun a8d => ?_)
        ·replace h := h.1 a8d
         exact hx5 _ _ (hj5 (decide (x1.b6 = 9)) H _ ((I.bring 1).bring 1) h)
        ·replace h := h.2 a8d
         refine a7 (k7 _ _ _ _ _ _) ?_
         exact hx5 _ _ (hj5 (decide (x1.b6 = 10)) H _ ((I.bring 1).bring 1) h)
   refine r9 fun j4 hx4 => ?_
   refine a7 (k7 _ _ _ _ _ _) ?_
   refine k4 (fun c9B => ?_) (fun c9B => ?_)
   ·replace h := h.1 c9B
    exact hx4 _ _ (hj4 (decide (x1.b6 = 4)) H _ ((I.bring 1).bring 1) h)
   ·replace h := h.2 c9B
    refine a7 (k7 _ _ _ _ _ _) ?_
    exact hx4 _ _ (hj4 (decide (x1.b6 = 5)) H _ ((I.bring 1).bring 1) h)
 refine r9 fun j3 hx3 => ?_
 refine a7 (k7 _ _ _ _ _ _) ?_
 refine k4 (fun c9y => ?_) (fun c9y => ?_)
 ·replace h := h.1 c9y
  exact hx3 _ _ (hj3 (decide (x1.b6 = 1)) H _ ((I_4.bring 1).bring 1) h)
 ·replace h := h.2 c9y
  refine a7 (k7 _ _ _ _ _ _) ?_
  refine k4 (fun c9z => ?_) (fun c9z => ?_)
  ·replace h := h.1 c9z
   exact hx3 _ _ (hj3 (decide (x1.b6 = 2)) H _ ((I_4.bring 1).bring 1) h)
  ·replace h := h.2 c9z
   refine a7 (k7 _ _ _ _ _ _) ?_
   exact hx3 _ _ (hj3 (decide (x1.b6 = 3)) H _ ((I_4.bring 1).bring 1) h)
theorem b5n (x0 : b9) (x1 : a8) {H : Hp} {K : b9 → Hp → Prop} (h : a2G x0 x1 H K) : Y6 x0 x1 H K := by
 intro g0 w I
 refine h7V ?_
 refine b4P x0 x1 g0 I (fun y0 H' w' I' hk => ⟨H', _, I', y0, rfl, rfl, hk⟩) h
def a1f (K1 : b7) (b3B : Int) (L8 : b9) (H : Hp) (n4 : (Int × b9) → Hp → Prop) (K : b9 → Hp → Prop) : Prop :=
 (((decide (b3B < (K1.o3.n : Int))) && L8.fok) = true →
 (0 : Int) ≤ b3B ∧ (b3B : Int) < K1.o3.n ∧ ∃ e6k : b7, EltH H K1.o3 b3B 4 (d8 e6k) ∧
 a2s L8 e6k H (fun (P6 : b9) (b2E : Hp) =>
 n4 ((IntKind.wrap .i64 (b3B + 1)), P6) b2E)) ∧
 (((decide (b3B < (K1.o3.n : Int))) && L8.fok) = false →
 K L8 H)
def a1g (a0U : b9) (S7 : b7) (H : Hp) (K : b9 → Hp → Prop) : Prop :=
 TL ((0, a0U) : Int × b9) H fun (s : Int × b9) H n4 => a1f S7 s.1 s.2 H n4 K
def a1h (a3B : b7) (b3C : Int) (B8 : b9) (H : Hp) (n5 : (Int × b9) → Hp → Prop) (K : b9 → Hp → Prop) : Prop :=
 (((decide (b3C < (a3B.f5.n : Int))) && B8.fok) = true →
 (0 : Int) ≤ b3C ∧ (b3C : Int) < a3B.f5.n ∧ ∃ e6l : a8, EltH H a3B.f5 b3C 4 (b8 e6l) ∧
 Y6 B8 e6l H (fun (e6m : b9) (f6z : Hp) =>
 n5 ((IntKind.wrap .i64 (b3C + 1)), e6m) f6z)) ∧
 (((decide (b3C < (a3B.f5.n : Int))) && B8.fok) = false →
 a1g B8 a3B H K)
def Q8 (c3M : Int) (j4q : Int) (b1L : Bool) (O0 : b7) (a5d : b9) (H : Hp) (K : b9 → Hp → Prop) : Prop :=
 TL ((0, (b9.mk (((a5d.fok && b1L) && (decide ((O0.f5.n : Int) = c3M))) && (decide ((O0.o3.n : Int) = j4q))) a5d.fnames)) : Int × b9) H fun (s : Int × b9) H n5 => a1h O0 s.1 s.2 H n5 K
def C9 (v6 : Int) (a4y : Int) (p9 : b7) (K5 : b9) (H : Hp) (K : b9 → Hp → Prop) : Prop :=
 (p9.b6 = 3 →
 Q8 v6 a4y ((decide (1 ≤ p9.fOp)) && (decide (p9.fOp ≤ 6))) p9 K5 H K) ∧
 (¬ (p9.b6 = 3) →
 Q8 v6 a4y (decide (p9.fOp = 0)) p9 K5 H K)
def Q9 (h8R : Int) (j4r : Int) (c7r : Bool) (f1P : b7) (f8x : b9) (H : Hp) (K : b9 → Hp → Prop) : Prop :=
 (c7r = true →
 C9 h8R 2 f1P f8x H K) ∧
 (c7r = false →
 C9 h8R j4r f1P (b9.mk false f8x.fnames) H K)
def R0 (e6n : Int) (e6o : Int) (c0D : Int) (c7s : Bool) (c6r : b7) (d1D : b9) (H : Hp) (K : b9 → Hp → Prop) : Prop :=
 (c7s = true →
 C9 e6n e6o c6r d1D H K) ∧
 (c7s = false →
 (c0D = 3 →
 C9 2 e6o c6r d1D H K) ∧
 (¬ (c0D = 3) →
 (c0D = 4 →
 C9 e6n 1 c6r d1D H K) ∧
 (¬ (c0D = 4) →
 (c0D = 5 →
 Q9 e6n e6o (decide (c0D = 5)) c6r d1D H K) ∧
 (¬ (c0D = 5) →
 Q9 e6n e6o (decide (c0D = 6)) c6r d1D H K))))
def a2H (x0 : b9) (x1 : b7) (H : Hp) (K : b9 → Hp → Prop) : Prop :=
 (x1.b6 = 1 →
 R0 0 0 x1.b6 (decide (x1.b6 = 1)) x1 x0 H K) ∧
 (¬ (x1.b6 = 1) →
 R0 0 0 x1.b6 (decide (x1.b6 = 2)) x1 x0 H K)
theorem b4Q (x0 : b9) (x1 : b7) (g0 : Nat) {K : b9 → Hp → Prop} (I : Inv w0 ps0 H0 H [bx g0 111 (k3 x0)] w) (hR : ∀ (y0 : b9) (H' : Hp) (w' : World) (_ : Inv w0 ps0 H0 H' [bx g0 111 (k3 y0)] w') (_ : K y0 H'), R (Value.tuple #[]) w') (h : a2H x0 x1 H K) : F87 (Value.pointer (some ⟨g0, 0, none⟩)) (Value.agg (d8 x1).toArray) w R E := by
 unfold a2H at h
 unfold F87
 refine K6 I (cs := (d8 x1)) rfl fun g_2 w_3 I_4 k_5 => ?_
 have hj1 : ∀ (v6 : Int) (a4y : Int) (K5 : b9) (H : Hp) (w : World) (_ : Inv w0 ps0 H0 H [bx g_2 59 (d8 x1), bx g0 111 (k3 K5)] w) (_ : C9 v6 a4y x1 K5 H K), d9z (Value.pointer (some ⟨g0, 0, none⟩)) (Value.pointer (some ⟨g_2, 0, none⟩)) (vi v6) (vi a4y) w R E := by
  intro v6 a4y K5 H w I h
  unfold d9z
  intro _
  unfold C9 at h
  refine a7 a6q ?_
  refine f2 (ld1 Tryz.isAgg3 (I.at1 (o := 1) (vs := [(vi x1.fOp)]) (nb rfl) rfl)) ?_
  refine a7 (k7 _ _ _ _ _ _) ?_
  have hj2 : ∀ (b1L : Bool) (H : Hp) (w : World) (_ : Inv w0 ps0 H0 H [bx g_2 59 (d8 x1), bx g0 111 (k3 K5)] w) (_ : Q8 v6 a4y b1L x1 K5 H K), d9x (Value.pointer (some ⟨g0, 0, none⟩)) (Value.pointer (some ⟨g_2, 0, none⟩)) (vi v6) (vi a4y) (vB b1L) w R E := by
   intro b1L H w I h
   unfold d9x
   intro _
   unfold Q8 at h
   refine a7 (w7 _) ?_
   refine a7 N8 ?_
   refine f2 (ld1 Tryz.isAgg4 ((I.bring 1).at1 (o := 0) (vs := [(vB K5.fok)]) (nb rfl) rfl)) ?_
   simp only [z2]
   refine a7 (w8 _ _) ?_
   refine a7 (Pu.g fun hb => by have d7 := hb; exact O4) ?_
   refine f2 (Ld.g fun hb => by have d7 := hb; simp only [i6 d7]; exact (ld1 Tryz.isAgg51 (I.at1 (o := 2) (vs := [(vs x1.f5)]) (nb rfl) rfl))) ?_
   refine a7 (Pu.g fun hb => by have d7 := hb; simp only [i6 d7]; exact (K0 _ _ _)) ?_
   simp only [z2]
   refine a7 (Pu.g fun hb => by have d7 := hb; simp only [i6 d7]; exact (k7 _ _ _ _ _ _)) ?_
   refine a7 (w8 _ _) ?_
   refine a7 (Pu.g fun hb => by have d7 := hb; exact M5) ?_
   refine f2 (Ld.g fun hb => by have d7 := hb; simp only [i6 d7]; exact (ld1 Tryz.isAgg57 (I.at1 (o := 3) (vs := [(vs x1.o3)]) (nb rfl) rfl))) ?_
   refine a7 (Pu.g fun hb => by have d7 := hb; simp only [i6 d7]; exact (V0 _ _ _)) ?_
   simp only [z2]
   refine a7 (Pu.g fun hb => by have d7 := hb; simp only [i6 d7]; exact (k7 _ _ _ _ _ _)) ?_
   refine a7 (w8 _ _) ?_
   refine a7 (w7 _) ?_
   refine a7 N8 ?_
   refine m5 (I.bring 1) Tryz.sizeOf4 (vs := [(vB (((K5.fok && b1L) && (decide ((x1.f5.n : Int) = v6))) && (decide ((x1.o3.n : Int) = a4y))))]) (cs' := [(vB (((K5.fok && b1L) && (decide ((x1.f5.n : Int) = v6))) && (decide ((x1.o3.n : Int) = a4y)))), (vB K5.fnames)]) rfl rfl (nb rfl) rfl rfl fun w_6 I_7 k_8 => ?_
   have hj3 : ∀ (a0U : b9) (H : Hp) (w : World) (_ : Inv w0 ps0 H0 H [bx g0 111 (k3 a0U), bx g_2 59 (d8 x1)] w) (_ : a1g a0U x1 H K), d9w (Value.pointer (some ⟨g0, 0, none⟩)) (Value.pointer (some ⟨g_2, 0, none⟩)) w R E := by
    intro a0U H w I h
    unfold d9w
    intro _
    unfold a1g at h
    obtain ⟨f6A, e0j, j4s, b5J⟩ := h
    refine A7 (J := fun n l w => ∃ (s : Int × b9) (H : Hp) , n = e0j s ∧ l = (match s with | (b3B, L8) => [(vi b3B)]) ∧ (match s with | (b3B, L8) => Inv w0 ps0 H0 H [bx g0 111 (k3 L8), bx g_2 59 (d8 x1)] w) ∧ f6A s H) ⟨_, (0, a0U), H, rfl, rfl, ((I.bring 1).bring 1), j4s⟩ ?_
    rintro k0W τ_72 w next4 ⟨⟨b3B, L8⟩, H, rfl, f6B, I, j4t⟩ hn4
    dsimp only at f6B I
    simp only [List.map_cons, List.map_nil, List.cons.injEq, and_true] at f6B
    have e8 := f6B
    simp only [e8]
    obtain ⟨n4, hm4, h⟩ : ∃ n4 : (Int × b9) → Hp → Prop, (∀ s' H', n4 s' H' → f6A s' H' ∧ e0j s' < e0j (b3B, L8)) ∧ a1f x1 b3B L8 H n4 K := ⟨_, fun _ _ h => h, b5J (b3B, L8) H (fun s' H' => f6A s' H' ∧ e0j s' < e0j (b3B, L8)) j4t (fun _ _ a b => ⟨a, b⟩)⟩
    unfold f1K
    unfold a1f at h
    refine a7 M5 ?_
    refine f2 (ld1 Tryz.isAgg57 ((I.bring 1).at1 (o := 3) (vs := [(vs x1.o3)]) (nb rfl) rfl)) ?_
    refine a7 (V0 _ _ _) ?_
    refine a7 (v7 _ _ _ _ _ _) ?_
    simp only [z2]
    refine a7 (Pu.g fun hb => by have d7 := hb; simp only [i6 d7]; exact (w7 _)) ?_
    refine a7 (Pu.g fun hb => by have d7 := hb; simp only [i6 d7]; exact N8) ?_
    refine f2 (Ld.g fun hb => by have d7 := hb; simp only [i6 d7]; exact (ld1 Tryz.isAgg4 (I.at1 (o := 0) (vs := [(vB L8.fok)]) (nb rfl) rfl))) ?_
    refine a7 (w8 _ _) ?_
    refine o2 (fun c9v => ?_) (fun c9v => ?_)
    ·replace h := h.1 c9v
     refine a7 M5 ?_
     refine f2 (ld1 Tryz.isAgg57 ((I.bring 1).at1 (o := 3) (vs := [(vs x1.o3)]) (nb rfl) rfl)) ?_
     obtain ⟨c1e, c1d, e6k, b8N, h⟩ := h
     obtain ⟨k0X, k0Y, c1j, b8N⟩ := b8N
     refine a7 (a1T c1j _ _ _ _ c1e c1d) ?_
     refine f2 (ldA (vs := (d8 e6k)) Tryz.isAgg59 Tryz.sizeOf59 rfl (I.atH b8N)) ?_
     refine f7 (cap := []) (fun args w => Tryz.call87 args w) ?_
     refine k8 (Fi := [bx g0 111 (k3 L8)]) (Fr := [bx g_2 59 (d8 x1)]) I (h g0) (fun j2Q b2E h4O P0 c3o j2R h4P f4d => ?_) (fun _ _ _ _ _ q => q.elim)
     obtain ⟨P6, rfl, rfl, h⟩ := f4d
     refine a7 (u7 _ _ _ _ _ _) ?_
     exact hn4 _ _ _ (hm4 _ _ h).2 ⟨((IntKind.wrap .i64 (b3B + 1)), P6), b2E, rfl, rfl, ((c3o.bring 1).bring 1), (hm4 _ _ h).1⟩
    ·replace h := h.2 c9v
     exact hR L8 H _ (I.bring 1).drop h
   refine r9 fun j3 hx3 => ?_
   obtain ⟨e6p, d1E, i7L, i7M⟩ := h
   refine A7 (J := fun n l w => ∃ (s : Int × b9) (H : Hp) , n = d1E s ∧ l = (match s with | (b3C, B8) => [(vi b3C)]) ∧ (match s with | (b3C, B8) => Inv w0 ps0 H0 H [bx g0 111 (k3 B8), bx g_2 59 (d8 x1)] w) ∧ e6p s H) ⟨_, (0, (b9.mk (((K5.fok && b1L) && (decide ((x1.f5.n : Int) = v6))) && (decide ((x1.o3.n : Int) = a4y))) K5.fnames)), H, rfl, rfl, ((I_7.bring 1).bring 1), i7L⟩ ?_
   rintro j6H τ_106 w next5 ⟨⟨b3C, B8⟩, H, rfl, e6q, I, i7N⟩ hn5
   dsimp only at e6q I
   simp only [List.map_cons, List.map_nil, List.cons.injEq, and_true] at e6q
   have e7 := e6q
   simp only [e7]
   obtain ⟨n5, hm5, h⟩ : ∃ n5 : (Int × b9) → Hp → Prop, (∀ s' H', n5 s' H' → e6p s' H' ∧ d1E s' < d1E (b3C, B8)) ∧ a1h x1 b3C B8 H n5 K := ⟨_, fun _ _ h => h, i7M (b3C, B8) H (fun s' H' => e6p s' H' ∧ d1E s' < d1E (b3C, B8)) i7N (fun _ _ a b => ⟨a, b⟩)⟩
   unfold f1L
   unfold a1h at h
   refine a7 O4 ?_
   refine f2 (ld1 Tryz.isAgg51 ((I.bring 1).at1 (o := 2) (vs := [(vs x1.f5)]) (nb rfl) rfl)) ?_
   refine a7 (K0 _ _ _) ?_
   refine a7 (v7 _ _ _ _ _ _) ?_
   simp only [z2]
   refine a7 (Pu.g fun hb => by have d7 := hb; simp only [i6 d7]; exact (w7 _)) ?_
   refine a7 (Pu.g fun hb => by have d7 := hb; simp only [i6 d7]; exact N8) ?_
   refine f2 (Ld.g fun hb => by have d7 := hb; simp only [i6 d7]; exact (ld1 Tryz.isAgg4 (I.at1 (o := 0) (vs := [(vB B8.fok)]) (nb rfl) rfl))) ?_
   refine a7 (w8 _ _) ?_
   refine o2 (fun e6r => ?_) (fun e6r => ?_)
   ·replace h := h.1 e6r
    refine a7 O4 ?_
    refine f2 (ld1 Tryz.isAgg51 ((I.bring 1).at1 (o := 2) (vs := [(vs x1.f5)]) (nb rfl) rfl)) ?_
    obtain ⟨e0k, f6C, e6l, d8g, h⟩ := h
    obtain ⟨k0Z, k1a, d8f, d8g⟩ := d8g
    refine a7 (G7 d8f _ _ _ _ e0k f6C) ?_
    refine f2 (ldA (vs := (b8 e6l)) Tryz.isAgg53 Tryz.sizeOf53 rfl (I.atH d8g)) ?_
    refine f7 (cap := []) (fun args w => Tryz.call88 args w) ?_
    refine k8 (Fi := [bx g0 111 (k3 B8)]) (Fr := [bx g_2 59 (d8 x1)]) I (h g0) (fun k1b f6z k1c a3E f6D k1d k1e j4u => ?_) (fun _ _ _ _ _ q => q.elim)
    obtain ⟨e6m, rfl, rfl, h⟩ := j4u
    refine a7 (u7 _ _ _ _ _ _) ?_
    exact hn5 _ _ _ (hm5 _ _ h).2 ⟨((IntKind.wrap .i64 (b3C + 1)), e6m), f6z, rfl, rfl, ((f6D.bring 1).bring 1), (hm5 _ _ h).1⟩
   ·replace h := h.2 e6r
    exact hx3 _ _ (hj3 B8 H _ ((I.bring 1).bring 1) h)
  refine r9 fun j2 hx2 => ?_
  refine a7 a2X ?_
  refine f2 (ld1 Tryz.isAgg3 (I.at1 (o := 0) (vs := [(vi x1.b6)]) (nb rfl) rfl)) ?_
  refine a7 (k7 _ _ _ _ _ _) ?_
  refine k4 (fun e6s => ?_) (fun e6s => ?_)
  ·replace h := h.1 e6s
   refine a7 a6q ?_
   refine f2 (ld1 Tryz.isAgg3 (I.at1 (o := 1) (vs := [(vi x1.fOp)]) (nb rfl) rfl)) ?_
   refine a7 (a7e _ _ _ _ _ _) ?_
   refine a7 (Pu.g fun hb => by have d7 := hb; exact a6q) ?_
   refine f2 (Ld.g fun hb => by have d7 := hb; simp only [i6 d7]; exact (ld1 Tryz.isAgg3 (I.at1 (o := 1) (vs := [(vi x1.fOp)]) (nb rfl) rfl))) ?_
   refine a7 (Pu.g fun hb => by have d7 := hb; simp only [i6 d7]; exact (b4a _ _ _ _ _ _)) ?_
   refine a7 (w8 _ _) ?_
   exact hx2 _ _ (hj2 ((decide (1 ≤ x1.fOp)) && (decide (x1.fOp ≤ 6))) H _ ((I.bring 1).bring 1) h)
  ·replace h := h.2 e6s
   exact hx2 _ _ (hj2 (decide (x1.fOp = 0)) H _ ((I.bring 1).bring 1) h)
 refine r9 fun j1 hx1 => ?_
 refine a7 a2X ?_
 refine f2 (ld1 Tryz.isAgg3 (I_4.at1 (o := 0) (vs := [(vi x1.b6)]) (nb rfl) rfl)) ?_
 have hj6 : ∀ (c7s : Bool) (H : Hp) (w : World) (_ : Inv w0 ps0 H0 H [bx g_2 59 (d8 x1), bx g0 111 (k3 x0)] w) (_ : R0 0 0 x1.b6 c7s x1 x0 H K), d9B (Value.pointer (some ⟨g0, 0, none⟩)) (Value.pointer (some ⟨g_2, 0, none⟩)) (vi 0) (vi 0) (vi x1.b6) (vB c7s) w j1 R E := by
  intro c7s H w I h
  unfold d9B
  intro _
  unfold R0 at h
  refine o2 (fun c3W => ?_) (fun c3W => ?_)
  ·replace h := h.1 c3W
   exact hx1 _ _ (hj1 0 0 x0 H _ ((I.bring 1).bring 1) h)
  ·replace h := h.2 c3W
   refine a7 (k7 _ _ _ _ _ _) ?_
   refine k4 (fun e6t => ?_) (fun e6t => ?_)
   ·replace h := h.1 e6t
    exact hx1 _ _ (hj1 2 0 x0 H _ ((I.bring 1).bring 1) h)
   ·replace h := h.2 e6t
    refine a7 (k7 _ _ _ _ _ _) ?_
    refine k4 (fun c3t => ?_) (fun c3t => ?_)
    ·replace h := h.1 c3t
     exact hx1 _ _ (hj1 0 1 x0 H _ ((I.bring 1).bring 1) h)
    ·replace h := h.2 c3t
     have hj7 : ∀ (c7r : Bool) (H : Hp) (w : World) (_ : Inv w0 ps0 H0 H [bx g_2 59 (d8 x1), bx g0 111 (k3 x0)] w) (_ : Q9 0 0 c7r x1 x0 H K), d9A (Value.pointer (some ⟨g0, 0, none⟩)) (Value.pointer (some ⟨g_2, 0, none⟩)) (vi 0) (vi 0) (vB c7r) w j1 R E := by
      intro c7r H w I h
      unfold d9A
      intro _
      unfold Q9 at h
      refine o2 (fun c3X => ?_) (fun c3X => ?_)
      ·replace h := h.1 c3X
       exact hx1 _ _ (hj1 0 2 x0 H _ ((I.bring 1).bring 1) h)
      ·replace h := h.2 c3X
       refine a7 (w7 _) ?_
       refine a7 N8 ?_
       refine m5 (I.bring 1) Tryz.sizeOf4 (vs := [(vB false)]) (cs' := [(vB false), (vB x0.fnames)]) rfl rfl (nb rfl) rfl rfl fun a7m d4V i7O => ?_
       exact hx1 _ _ (hj1 0 0 (b9.mk false x0.fnames) H _ (d4V.bring 1) h)
     refine r9 fun j7 hx7 => ?_
     refine a7 (k7 _ _ _ _ _ _) ?_
     refine k4 (fun c3Y => ?_) (fun c3Y => ?_)
     ·replace h := h.1 c3Y
      exact hx7 _ _ (hj7 (decide (x1.b6 = 5)) H _ ((I.bring 1).bring 1) h)
     ·replace h := h.2 c3Y
      refine a7 (k7 _ _ _ _ _ _) ?_
      exact hx7 _ _ (hj7 (decide (x1.b6 = 6)) H _ ((I.bring 1).bring 1) h)
 refine r9 fun j6 hx6 => ?_
 refine a7 (k7 _ _ _ _ _ _) ?_
 refine k4 (fun c3Z => ?_) (fun c3Z => ?_)
 ·replace h := h.1 c3Z
  exact hx6 _ _ (hj6 (decide (x1.b6 = 1)) H _ ((I_4.bring 1).bring 1) h)
 ·replace h := h.2 c3Z
  refine a7 (k7 _ _ _ _ _ _) ?_
  exact hx6 _ _ (hj6 (decide (x1.b6 = 2)) H _ ((I_4.bring 1).bring 1) h)
theorem b5o (x0 : b9) (x1 : b7) {H : Hp} {K : b9 → Hp → Prop} (h : a2H x0 x1 H K) : a2s x0 x1 H K := by
 intro g0 w I
 refine h7z ?_
 refine b4Q x0 x1 g0 I (fun y0 H' w' I' hk => ⟨H', _, I', y0, rfl, rfl, hk⟩) h
def a1i (a3B : d6) (b1c : Int) (B8 : b9) (H : Hp) (n5 : (Int × b9) → Hp → Prop) (K : b9 → Hp → Prop) : Prop :=
 (((decide (b1c < (a3B.z6.n : Int))) && B8.fok) = true →
 (0 : Int) ≤ b1c ∧ (b1c : Int) < a3B.z6.n ∧ ∃ c4a : d6, EltH H a3B.z6 b1c 6 (d9 c4a) ∧
 Y7 B8 c4a H (fun (e0l : b9) (c1o : Hp) =>
 n5 ((IntKind.wrap .i64 (b1c + 1)), e0l) c1o)) ∧
 (((decide (b1c < (a3B.z6.n : Int))) && B8.fok) = false →
 K B8 H)
def a1j (b2e : b9) (b4G : d6) (H : Hp) (K : b9 → Hp → Prop) : Prop :=
 TL ((0, b2e) : Int × b9) H fun (s : Int × b9) H n5 => a1i b4G s.1 s.2 H n5 K
def a1k (b1C : d6) (b3D : Int) (a0Y : b9) (H : Hp) (n6 : (Int × b9) → Hp → Prop) (K : b9 → Hp → Prop) : Prop :=
 (((decide (b3D < (b1C.A5.n : Int))) && a0Y.fok) = true →
 (0 : Int) ≤ b3D ∧ (b3D : Int) < b1C.A5.n ∧ ∃ d4W : d6, EltH H b1C.A5 b3D 6 (d9 d4W) ∧
 Y7 a0Y d4W H (fun (e0m : b9) (e6u : Hp) =>
 n6 ((IntKind.wrap .i64 (b3D + 1)), e0m) e6u)) ∧
 (((decide (b3D < (b1C.A5.n : Int))) && a0Y.fok) = false →
 a1j a0Y b1C H K)
def a1l (a0U : b9) (S7 : d6) (H : Hp) (K : b9 → Hp → Prop) : Prop :=
 TL ((0, a0U) : Int × b9) H fun (s : Int × b9) H n6 => a1k S7 s.1 s.2 H n6 K
def a1m (b1D : d6) (b3E : Int) (a1d : b9) (H : Hp) (n7 : (Int × b9) → Hp → Prop) (K : b9 → Hp → Prop) : Prop :=
 (((decide (b3E < (b1D.f5.n : Int))) && a1d.fok) = true →
 (0 : Int) ≤ b3E ∧ (b3E : Int) < b1D.f5.n ∧ ∃ d4X : a8, EltH H b1D.f5 b3E 4 (b8 d4X) ∧
 Y6 a1d d4X H (fun (e0n : b9) (e6v : Hp) =>
 n7 ((IntKind.wrap .i64 (b3E + 1)), e0n) e6v)) ∧
 (((decide (b3E < (b1D.f5.n : Int))) && a1d.fok) = false →
 a1l a1d b1D H K)
def a1o (a5d : b9) (O0 : d6) (H : Hp) (K : b9 → Hp → Prop) : Prop :=
 TL ((0, a5d) : Int × b9) H fun (s : Int × b9) H n7 => a1m O0 s.1 s.2 H n7 K
def a1p (c6s : d6) (b3F : Int) (b0y : b9) (H : Hp) (n8 : (Int × b9) → Hp → Prop) (K : b9 → Hp → Prop) : Prop :=
 (((decide (b3F < (c6s.i4.n : Int))) && b0y.fok) = true →
 (0 : Int) ≤ b3F ∧ (b3F : Int) < c6s.i4.n ∧ ∃ d4Y : b7, EltH H c6s.i4 b3F 4 (d8 d4Y) ∧
 a2s b0y d4Y H (fun (e0o : b9) (e6w : Hp) =>
 n8 ((IntKind.wrap .i64 (b3F + 1)), e0o) e6w)) ∧
 (((decide (b3F < (c6s.i4.n : Int))) && b0y.fok) = false →
 a1o b0y c6s H K)
def D1 (v6 : Int) (a4y : Int) (p9 : d6) (K5 : b9) (H : Hp) (K : b9 → Hp → Prop) : Prop :=
 Y5 K5 p9.f6 ((decide (p9.b6 = 1)) || (decide (p9.b6 = 2))) H (fun (U7 : b9) (H_6 : Hp) =>
 TL ((0, (b9.mk ((((U7.fok && (decide ((p9.f5.n : Int) = v6))) && (decide ((p9.i4.n : Int) = a4y))) && (((decide ((p9.A5.n : Int) = 0)) || (decide (p9.b6 = 3))) || (decide (p9.b6 = 4)))) && ((decide ((p9.z6.n : Int) = 0)) || (decide (p9.b6 = 3)))) U7.fnames)) : Int × b9) H_6 fun (s : Int × b9) H n8 => a1p p9 s.1 s.2 H n8 K)
def K3 (f6E : Int) (h8S : Int) (f8y : Int) (c7t : Bool) (e0p : d6) (e6x : b9) (H : Hp) (K : b9 → Hp → Prop) : Prop :=
 (c7t = true →
 D1 f6E 1 e0p e6x H K) ∧
 (c7t = false →
 (f8y = 7 →
 D1 f6E h8S e0p e6x H K) ∧
 (¬ (f8y = 7) →
 D1 f6E h8S e0p (b9.mk false e6x.fnames) H K))
def a2I (x0 : b9) (x1 : d6) (H : Hp) (K : b9 → Hp → Prop) : Prop :=
 (x1.b6 = 1 →
 D1 1 0 x1 x0 H K) ∧
 (¬ (x1.b6 = 1) →
 (x1.b6 = 2 →
 D1 2 0 x1 x0 H K) ∧
 (¬ (x1.b6 = 2) →
 (x1.b6 = 3 →
 K3 0 0 x1.b6 (decide (x1.b6 = 3)) x1 x0 H K) ∧
 (¬ (x1.b6 = 3) →
 (x1.b6 = 4 →
 K3 0 0 x1.b6 (decide (x1.b6 = 4)) x1 x0 H K) ∧
 (¬ (x1.b6 = 4) →
 (x1.b6 = 5 →
 K3 0 0 x1.b6 (decide (x1.b6 = 5)) x1 x0 H K) ∧
 (¬ (x1.b6 = 5) →
 K3 0 0 x1.b6 (decide (x1.b6 = 6)) x1 x0 H K)))))
theorem b4R (x0 : b9) (x1 : d6) (g0 : Nat) {K : b9 → Hp → Prop} (I : Inv w0 ps0 H0 H [bx g0 111 (k3 x0)] w) (hR : ∀ (y0 : b9) (H' : Hp) (w' : World) (_ : Inv w0 ps0 H0 H' [bx g0 111 (k3 y0)] w') (_ : K y0 H'), R (Value.tuple #[]) w') (h : a2I x0 x1 H K) : F49 (Value.pointer (some ⟨g0, 0, none⟩)) (Value.agg (d9 x1).toArray) w R E := by
 unfold a2I at h
 unfold F49
 refine K6 I (cs := (d9 x1)) rfl fun g_2 w_3 I_4 k_5 => ?_
 have hj1 : ∀ (v6 : Int) (a4y : Int) (K5 : b9) (H : Hp) (w : World) (_ : Inv w0 ps0 H0 H [bx g_2 73 (d9 x1), bx g0 111 (k3 K5)] w) (_ : D1 v6 a4y x1 K5 H K), d9p (Value.pointer (some ⟨g0, 0, none⟩)) (Value.pointer (some ⟨g_2, 0, none⟩)) (vi v6) (vi a4y) w R E := by
  intro v6 a4y K5 H w I h
  unfold d9p
  intro _
  unfold D1 at h
  refine a7 a8J ?_
  refine f2 (ld1 Tryz.isAgg9 (I.at1 (o := 1) (vs := [(Value.string x1.f6)]) (nb rfl) rfl)) ?_
  refine a7 a0F ?_
  refine f2 (ld1 Tryz.isAgg3 (I.at1 (o := 0) (vs := [(vi x1.b6)]) (nb rfl) rfl)) ?_
  refine a7 (k7 _ _ _ _ _ _) ?_
  refine a7 (Pu.g fun hb => by have d7 := hb; exact a0F) ?_
  refine f2 (Ld.g fun hb => by have d7 := hb; simp only [i6 d7]; exact (ld1 Tryz.isAgg3 (I.at1 (o := 0) (vs := [(vi x1.b6)]) (nb rfl) rfl))) ?_
  refine a7 (Pu.g fun hb => by have d7 := hb; simp only [i6 d7]; exact (k7 _ _ _ _ _ _)) ?_
  refine a7 (M4 _ _) ?_
  refine f7 (cap := []) (fun args w => Tryz.call48 args w) ?_
  refine k8 (Fi := [bx g0 111 (k3 K5)]) (Fr := [bx g_2 73 (d9 x1)]) (I.bring 1) (h g0) (fun b6Z H_6 b7a w_7 I_8 b7b k_9 a7c => ?_) (fun _ _ _ _ _ q => q.elim)
  obtain ⟨U7, rfl, rfl, h⟩ := a7c
  refine a7 (w7 _) ?_
  refine a7 N8 ?_
  refine f2 (ld1 Tryz.isAgg4 (I_8.at1 (o := 0) (vs := [(vB U7.fok)]) (nb rfl) rfl)) ?_
  refine a7 (Pu.g fun hb => by have d7 := hb; exact S9) ?_
  refine f2 (Ld.g fun hb => by have d7 := hb; simp only [i6 d7]; exact (ld1 Tryz.isAgg51 ((I_8.bring 1).at1 (o := 2) (vs := [(vs x1.f5)]) (nb rfl) rfl))) ?_
  refine a7 (Pu.g fun hb => by have d7 := hb; simp only [i6 d7]; exact (K0 _ _ _)) ?_
  simp only [z2]
  refine a7 (Pu.g fun hb => by have d7 := hb; simp only [i6 d7]; exact (k7 _ _ _ _ _ _)) ?_
  refine a7 (w8 _ _) ?_
  refine a7 (Pu.g fun hb => by have d7 := hb; exact R7) ?_
  refine f2 (Ld.g fun hb => by have d7 := hb; simp only [i6 d7]; exact (ld1 Tryz.isAgg57 ((I_8.bring 1).at1 (o := 3) (vs := [(vs x1.i4)]) (nb rfl) rfl))) ?_
  refine a7 (Pu.g fun hb => by have d7 := hb; simp only [i6 d7]; exact (V0 _ _ _)) ?_
  simp only [z2]
  refine a7 (Pu.g fun hb => by have d7 := hb; simp only [i6 d7]; exact (k7 _ _ _ _ _ _)) ?_
  refine a7 (w8 _ _) ?_
  refine a7 (Pu.g fun hb => by have d7 := hb; exact U6) ?_
  refine f2 (Ld.g fun hb => by have d7 := hb; simp only [i6 d7]; exact (ld1 Tryz.isAgg23 ((I_8.bring 1).at1 (o := 4) (vs := [(vs x1.A5)]) (nb rfl) rfl))) ?_
  refine a7 (Pu.g fun hb => by have d7 := hb; simp only [i6 d7]; exact (W8 _ _ _)) ?_
  refine a7 (Pu.g fun hb => by have d7 := hb; simp only [i6 d7]; exact (k7 _ _ _ _ _ _)) ?_
  simp only [z2, b1S]
  refine a7 (Pu.e (a6O _ _ _) (Pu.g fun hb => by obtain ⟨d7, a5u⟩ := a8H hb; exact a0F)) ?_
  refine f2 (Ld.e (a6O _ _ _) (Ld.g fun hb => by obtain ⟨d7, a5u⟩ := a8H hb; simp only [i6 hb]; exact (ld1 Tryz.isAgg3 ((I_8.bring 1).at1 (o := 0) (vs := [(vi x1.b6)]) (nb rfl) rfl)))) ?_
  refine a7 (Pu.e (a6O _ _ _) (Pu.g fun hb => by obtain ⟨d7, a5u⟩ := a8H hb; simp only [i6 hb]; exact (k7 _ _ _ _ _ _))) ?_
  refine a7 (Pu.g fun hb => by have d7 := hb; simp only [i6 d7, c4L d7]; exact (M4 _ _)) ?_
  simp only [b1S]
  refine a7 (Pu.e (a6O _ _ _) (Pu.g fun hb => by obtain ⟨d7, a5u⟩ := a8H hb; exact a0F)) ?_
  refine f2 (Ld.e (a6O _ _ _) (Ld.g fun hb => by obtain ⟨d7, a5u⟩ := a8H hb; simp only [i6 hb]; exact (ld1 Tryz.isAgg3 ((I_8.bring 1).at1 (o := 0) (vs := [(vi x1.b6)]) (nb rfl) rfl)))) ?_
  refine a7 (Pu.e (a6O _ _ _) (Pu.g fun hb => by obtain ⟨d7, a5u⟩ := a8H hb; simp only [i6 hb]; exact (k7 _ _ _ _ _ _))) ?_
  refine a7 (Pu.g fun hb => by have d7 := hb; simp only [i6 d7, c4L d7]; exact (M4 _ _)) ?_
  refine a7 (w8 _ _) ?_
  refine a7 (Pu.g fun hb => by have d7 := hb; exact Z2) ?_
  refine f2 (Ld.g fun hb => by have d7 := hb; simp only [i6 d7]; exact (ld1 Tryz.isAgg23 ((I_8.bring 1).at1 (o := 5) (vs := [(vs x1.z6)]) (nb rfl) rfl))) ?_
  refine a7 (Pu.g fun hb => by have d7 := hb; simp only [i6 d7]; exact (W8 _ _ _)) ?_
  refine a7 (Pu.g fun hb => by have d7 := hb; simp only [i6 d7]; exact (k7 _ _ _ _ _ _)) ?_
  simp only [z2, b1S]
  refine a7 (Pu.e (a6O _ _ _) (Pu.g fun hb => by obtain ⟨d7, a5u⟩ := a8H hb; exact a0F)) ?_
  refine f2 (Ld.e (a6O _ _ _) (Ld.g fun hb => by obtain ⟨d7, a5u⟩ := a8H hb; simp only [i6 hb]; exact (ld1 Tryz.isAgg3 ((I_8.bring 1).at1 (o := 0) (vs := [(vi x1.b6)]) (nb rfl) rfl)))) ?_
  refine a7 (Pu.e (a6O _ _ _) (Pu.g fun hb => by obtain ⟨d7, a5u⟩ := a8H hb; simp only [i6 hb]; exact (k7 _ _ _ _ _ _))) ?_
  refine a7 (Pu.g fun hb => by have d7 := hb; simp only [i6 d7, c4L d7]; exact (M4 _ _)) ?_
  refine a7 (w8 _ _) ?_
  refine a7 (w7 _) ?_
  refine a7 N8 ?_
  refine m5 I_8 Tryz.sizeOf4 (vs := [(vB ((((U7.fok && (decide ((x1.f5.n : Int) = v6))) && (decide ((x1.i4.n : Int) = a4y))) && (((decide ((x1.A5.n : Int) = 0)) || (decide (x1.b6 = 3))) || (decide (x1.b6 = 4)))) && ((decide ((x1.z6.n : Int) = 0)) || (decide (x1.b6 = 3)))))]) (cs' := [(vB ((((U7.fok && (decide ((x1.f5.n : Int) = v6))) && (decide ((x1.i4.n : Int) = a4y))) && (((decide ((x1.A5.n : Int) = 0)) || (decide (x1.b6 = 3))) || (decide (x1.b6 = 4)))) && ((decide ((x1.z6.n : Int) = 0)) || (decide (x1.b6 = 3))))), (vB U7.fnames)]) rfl rfl (nb rfl) rfl rfl fun c2J f6u j4m => ?_
  have hj2 : ∀ (a5d : b9) (H : Hp) (w : World) (_ : Inv w0 ps0 H0 H [bx g0 111 (k3 a5d), bx g_2 73 (d9 x1)] w) (_ : a1o a5d x1 H K), d9o (Value.pointer (some ⟨g0, 0, none⟩)) (Value.pointer (some ⟨g_2, 0, none⟩)) w R E := by
   intro a5d H w I h
   unfold d9o
   intro _
   unfold a1o at h
   have hj3 : ∀ (a0U : b9) (H : Hp) (w : World) (_ : Inv w0 ps0 H0 H [bx g0 111 (k3 a0U), bx g_2 73 (d9 x1)] w) (_ : a1l a0U x1 H K), d9n (Value.pointer (some ⟨g0, 0, none⟩)) (Value.pointer (some ⟨g_2, 0, none⟩)) w R E := by
    intro a0U H w I h
    unfold d9n
    intro _
    unfold a1l at h
    have hj4 : ∀ (b2e : b9) (H : Hp) (w : World) (_ : Inv w0 ps0 H0 H [bx g0 111 (k3 b2e), bx g_2 73 (d9 x1)] w) (_ : a1j b2e x1 H K), d9m (Value.pointer (some ⟨g0, 0, none⟩)) (Value.pointer (some ⟨g_2, 0, none⟩)) w R E := by
     intro b2e H w I h
     unfold d9m
     intro _
     unfold a1j at h
     obtain ⟨e6y, d1F, i7P, i7Q⟩ := h
     refine A7 (J := fun n l w => ∃ (s : Int × b9) (H : Hp) , n = d1F s ∧ l = (match s with | (b1c, B8) => [(vi b1c)]) ∧ (match s with | (b1c, B8) => Inv w0 ps0 H0 H [bx g0 111 (k3 B8), bx g_2 73 (d9 x1)] w) ∧ e6y s H) ⟨_, (0, b2e), H, rfl, rfl, ((I.bring 1).bring 1), i7P⟩ ?_
     rintro j6I τ_113 w next5 ⟨⟨b1c, B8⟩, H, rfl, e6z, I, i7R⟩ hn5
     dsimp only at e6z I
     simp only [List.map_cons, List.map_nil, List.cons.injEq, and_true] at e6z
     have e9 := e6z
     simp only [e9]
     obtain ⟨n5, hm5, h⟩ : ∃ n5 : (Int × b9) → Hp → Prop, (∀ s' H', n5 s' H' → e6y s' H' ∧ d1F s' < d1F (b1c, B8)) ∧ a1i x1 b1c B8 H n5 K := ⟨_, fun _ _ h => h, i7Q (b1c, B8) H (fun s' H' => e6y s' H' ∧ d1F s' < d1F (b1c, B8)) i7R (fun _ _ a b => ⟨a, b⟩)⟩
     unfold f1F
     unfold a1i at h
     refine a7 Z2 ?_
     refine f2 (ld1 Tryz.isAgg23 ((I.bring 1).at1 (o := 5) (vs := [(vs x1.z6)]) (nb rfl) rfl)) ?_
     refine a7 (W8 _ _ _) ?_
     refine a7 (v7 _ _ _ _ _ _) ?_
     simp only [z2]
     refine a7 (Pu.g fun hb => by have d7 := hb; simp only [i6 d7]; exact (w7 _)) ?_
     refine a7 (Pu.g fun hb => by have d7 := hb; simp only [i6 d7]; exact N8) ?_
     refine f2 (Ld.g fun hb => by have d7 := hb; simp only [i6 d7]; exact (ld1 Tryz.isAgg4 (I.at1 (o := 0) (vs := [(vB B8.fok)]) (nb rfl) rfl))) ?_
     refine a7 (w8 _ _) ?_
     refine o2 (fun e6A => ?_) (fun e6A => ?_)
     ·replace h := h.1 e6A
      refine a7 Z2 ?_
      refine f2 (ld1 Tryz.isAgg23 ((I.bring 1).at1 (o := 5) (vs := [(vs x1.z6)]) (nb rfl) rfl)) ?_
      obtain ⟨b7g, c9d, c4a, c4b, h⟩ := h
      obtain ⟨j4v, j4w, c3x, c4b⟩ := c4b
      refine a7 (a6W c3x _ _ _ _ b7g c9d) ?_
      refine f2 (ldA (vs := (d9 c4a)) Tryz.isAgg73 Tryz.sizeOf73 rfl (I.atH c4b)) ?_
      refine f7 (cap := []) (fun args w => Tryz.call49 args w) ?_
      refine k8 (Fi := [bx g0 111 (k3 B8)]) (Fr := [bx g_2 73 (d9 x1)]) I (h g0) (fun i7S c1o i7T d3M c0E e5Y f8z e6B => ?_) (fun _ _ _ _ _ q => q.elim)
      obtain ⟨e0l, rfl, rfl, h⟩ := e6B
      refine a7 (u7 _ _ _ _ _ _) ?_
      exact hn5 _ _ _ (hm5 _ _ h).2 ⟨((IntKind.wrap .i64 (b1c + 1)), e0l), c1o, rfl, rfl, ((c0E.bring 1).bring 1), (hm5 _ _ h).1⟩
     ·replace h := h.2 e6A
      exact hR B8 H _ (I.bring 1).drop h
    refine r9 fun j4 hx4 => ?_
    obtain ⟨e6C, d1G, i7U, i7V⟩ := h
    refine A7 (J := fun n l w => ∃ (s : Int × b9) (H : Hp) , n = d1G s ∧ l = (match s with | (b3D, a0Y) => [(vi b3D)]) ∧ (match s with | (b3D, a0Y) => Inv w0 ps0 H0 H [bx g0 111 (k3 a0Y), bx g_2 73 (d9 x1)] w) ∧ e6C s H) ⟨_, (0, a0U), H, rfl, rfl, ((I.bring 1).bring 1), i7U⟩ ?_
    rintro j6J τ_147 w next6 ⟨⟨b3D, a0Y⟩, H, rfl, e6D, I, i7W⟩ hn6
    dsimp only at e6D I
    simp only [List.map_cons, List.map_nil, List.cons.injEq, and_true] at e6D
    have e8 := e6D
    simp only [e8]
    obtain ⟨n6, hm6, h⟩ : ∃ n6 : (Int × b9) → Hp → Prop, (∀ s' H', n6 s' H' → e6C s' H' ∧ d1G s' < d1G (b3D, a0Y)) ∧ a1k x1 b3D a0Y H n6 K := ⟨_, fun _ _ h => h, i7V (b3D, a0Y) H (fun s' H' => e6C s' H' ∧ d1G s' < d1G (b3D, a0Y)) i7W (fun _ _ a b => ⟨a, b⟩)⟩
    unfold f1G
    unfold a1k at h
    refine a7 U6 ?_
    refine f2 (ld1 Tryz.isAgg23 ((I.bring 1).at1 (o := 4) (vs := [(vs x1.A5)]) (nb rfl) rfl)) ?_
    refine a7 (W8 _ _ _) ?_
    refine a7 (v7 _ _ _ _ _ _) ?_
    simp only [z2]
    refine a7 (Pu.g fun hb => by have d7 := hb; simp only [i6 d7]; exact (w7 _)) ?_
    refine a7 (Pu.g fun hb => by have d7 := hb; simp only [i6 d7]; exact N8) ?_
    refine f2 (Ld.g fun hb => by have d7 := hb; simp only [i6 d7]; exact (ld1 Tryz.isAgg4 (I.at1 (o := 0) (vs := [(vB a0Y.fok)]) (nb rfl) rfl))) ?_
    refine a7 (w8 _ _) ?_
    refine o2 (fun c4c => ?_) (fun c4c => ?_)
    ·replace h := h.1 c4c
     refine a7 U6 ?_
     refine f2 (ld1 Tryz.isAgg23 ((I.bring 1).at1 (o := 4) (vs := [(vs x1.A5)]) (nb rfl) rfl)) ?_
     obtain ⟨b4F, i7X, d4W, e6E, h⟩ := h
     obtain ⟨j6K, j6L, i7Y, e6E⟩ := e6E
     refine a7 (a6W i7Y _ _ _ _ b4F i7X) ?_
     refine f2 (ldA (vs := (d9 d4W)) Tryz.isAgg73 Tryz.sizeOf73 rfl (I.atH e6E)) ?_
     refine f7 (cap := []) (fun args w => Tryz.call49 args w) ?_
     refine k8 (Fi := [bx g0 111 (k3 a0Y)]) (Fr := [bx g_2 73 (d9 x1)]) I (h g0) (fun j6M e6u f8A b2R d4Z j6N f8B i7Z => ?_) (fun _ _ _ _ _ q => q.elim)
     obtain ⟨e0m, rfl, rfl, h⟩ := i7Z
     refine a7 (u7 _ _ _ _ _ _) ?_
     exact hn6 _ _ _ (hm6 _ _ h).2 ⟨((IntKind.wrap .i64 (b3D + 1)), e0m), e6u, rfl, rfl, ((d4Z.bring 1).bring 1), (hm6 _ _ h).1⟩
    ·replace h := h.2 c4c
     exact hx4 _ _ (hj4 a0Y H _ ((I.bring 1).bring 1) h)
   refine r9 fun j3 hx3 => ?_
   obtain ⟨e6F, d1H, i8a, i8b⟩ := h
   refine A7 (J := fun n l w => ∃ (s : Int × b9) (H : Hp) , n = d1H s ∧ l = (match s with | (b3E, a1d) => [(vi b3E)]) ∧ (match s with | (b3E, a1d) => Inv w0 ps0 H0 H [bx g0 111 (k3 a1d), bx g_2 73 (d9 x1)] w) ∧ e6F s H) ⟨_, (0, a5d), H, rfl, rfl, ((I.bring 1).bring 1), i8a⟩ ?_
   rintro j6O τ_181 w next7 ⟨⟨b3E, a1d⟩, H, rfl, e6G, I, f8C⟩ hn7
   dsimp only at e6G I
   simp only [List.map_cons, List.map_nil, List.cons.injEq, and_true] at e6G
   have e7 := e6G
   simp only [e7]
   obtain ⟨n7, hm7, h⟩ : ∃ n7 : (Int × b9) → Hp → Prop, (∀ s' H', n7 s' H' → e6F s' H' ∧ d1H s' < d1H (b3E, a1d)) ∧ a1m x1 b3E a1d H n7 K := ⟨_, fun _ _ h => h, i8b (b3E, a1d) H (fun s' H' => e6F s' H' ∧ d1H s' < d1H (b3E, a1d)) f8C (fun _ _ a b => ⟨a, b⟩)⟩
   unfold f1H
   unfold a1m at h
   refine a7 S9 ?_
   refine f2 (ld1 Tryz.isAgg51 ((I.bring 1).at1 (o := 2) (vs := [(vs x1.f5)]) (nb rfl) rfl)) ?_
   refine a7 (K0 _ _ _) ?_
   refine a7 (v7 _ _ _ _ _ _) ?_
   simp only [z2]
   refine a7 (Pu.g fun hb => by have d7 := hb; simp only [i6 d7]; exact (w7 _)) ?_
   refine a7 (Pu.g fun hb => by have d7 := hb; simp only [i6 d7]; exact N8) ?_
   refine f2 (Ld.g fun hb => by have d7 := hb; simp only [i6 d7]; exact (ld1 Tryz.isAgg4 (I.at1 (o := 0) (vs := [(vB a1d.fok)]) (nb rfl) rfl))) ?_
   refine a7 (w8 _ _) ?_
   refine o2 (fun e6H => ?_) (fun e6H => ?_)
   ·replace h := h.1 e6H
    refine a7 S9 ?_
    refine f2 (ld1 Tryz.isAgg51 ((I.bring 1).at1 (o := 2) (vs := [(vs x1.f5)]) (nb rfl) rfl)) ?_
    obtain ⟨d1j, e6I, d4X, e6J, h⟩ := h
    obtain ⟨j6P, j6Q, i8c, e6J⟩ := e6J
    refine a7 (G7 i8c _ _ _ _ d1j e6I) ?_
    refine f2 (ldA (vs := (b8 d4X)) Tryz.isAgg53 Tryz.sizeOf53 rfl (I.atH e6J)) ?_
    refine f7 (cap := []) (fun args w => Tryz.call88 args w) ?_
    refine k8 (Fi := [bx g0 111 (k3 a1d)]) (Fr := [bx g_2 73 (d9 x1)]) I (h g0) (fun j6R e6v j6S c2H i8d j6T j6U i8e => ?_) (fun _ _ _ _ _ q => q.elim)
    obtain ⟨e0n, rfl, rfl, h⟩ := i8e
    refine a7 (u7 _ _ _ _ _ _) ?_
    exact hn7 _ _ _ (hm7 _ _ h).2 ⟨((IntKind.wrap .i64 (b3E + 1)), e0n), e6v, rfl, rfl, ((i8d.bring 1).bring 1), (hm7 _ _ h).1⟩
   ·replace h := h.2 e6H
    exact hx3 _ _ (hj3 a1d H _ ((I.bring 1).bring 1) h)
  refine r9 fun j2 hx2 => ?_
  obtain ⟨e6K, d1I, i8f, i8g⟩ := h
  refine A7 (J := fun n l w => ∃ (s : Int × b9) (H : Hp) , n = d1I s ∧ l = (match s with | (b3F, b0y) => [(vi b3F)]) ∧ (match s with | (b3F, b0y) => Inv w0 ps0 H0 H [bx g0 111 (k3 b0y), bx g_2 73 (d9 x1)] w) ∧ e6K s H) ⟨_, (0, (b9.mk ((((U7.fok && (decide ((x1.f5.n : Int) = v6))) && (decide ((x1.i4.n : Int) = a4y))) && (((decide ((x1.A5.n : Int) = 0)) || (decide (x1.b6 = 3))) || (decide (x1.b6 = 4)))) && ((decide ((x1.z6.n : Int) = 0)) || (decide (x1.b6 = 3)))) U7.fnames)), H_6, rfl, rfl, ((f6u.bring 1).bring 1), i8f⟩ ?_
  rintro j6V τ_215 w next8 ⟨⟨b3F, b0y⟩, H, rfl, e6L, I, i8h⟩ hn8
  dsimp only at e6L I
  simp only [List.map_cons, List.map_nil, List.cons.injEq, and_true] at e6L
  have e6 := e6L
  simp only [e6]
  obtain ⟨n8, hm8, h⟩ : ∃ n8 : (Int × b9) → Hp → Prop, (∀ s' H', n8 s' H' → e6K s' H' ∧ d1I s' < d1I (b3F, b0y)) ∧ a1p x1 b3F b0y H n8 K := ⟨_, fun _ _ h => h, i8g (b3F, b0y) H (fun s' H' => e6K s' H' ∧ d1I s' < d1I (b3F, b0y)) i8h (fun _ _ a b => ⟨a, b⟩)⟩
  unfold f1I
  unfold a1p at h
  refine a7 R7 ?_
  refine f2 (ld1 Tryz.isAgg57 ((I.bring 1).at1 (o := 3) (vs := [(vs x1.i4)]) (nb rfl) rfl)) ?_
  refine a7 (V0 _ _ _) ?_
  refine a7 (v7 _ _ _ _ _ _) ?_
  simp only [z2]
  refine a7 (Pu.g fun hb => by have d7 := hb; simp only [i6 d7]; exact (w7 _)) ?_
  refine a7 (Pu.g fun hb => by have d7 := hb; simp only [i6 d7]; exact N8) ?_
  refine f2 (Ld.g fun hb => by have d7 := hb; simp only [i6 d7]; exact (ld1 Tryz.isAgg4 (I.at1 (o := 0) (vs := [(vB b0y.fok)]) (nb rfl) rfl))) ?_
  refine a7 (w8 _ _) ?_
  refine o2 (fun e6M => ?_) (fun e6M => ?_)
  ·replace h := h.1 e6M
   refine a7 R7 ?_
   refine f2 (ld1 Tryz.isAgg57 ((I.bring 1).at1 (o := 3) (vs := [(vs x1.i4)]) (nb rfl) rfl)) ?_
   obtain ⟨d1l, d1J, d4Y, e6N, h⟩ := h
   obtain ⟨j6W, j6X, e6O, e6N⟩ := e6N
   refine a7 (a1T e6O _ _ _ _ d1l d1J) ?_
   refine f2 (ldA (vs := (d8 d4Y)) Tryz.isAgg59 Tryz.sizeOf59 rfl (I.atH e6N)) ?_
   refine f7 (cap := []) (fun args w => Tryz.call87 args w) ?_
   refine k8 (Fi := [bx g0 111 (k3 b0y)]) (Fr := [bx g_2 73 (d9 x1)]) I (h g0) (fun j6Y e6w j6Z j7a e6P j7b i8i i8j => ?_) (fun _ _ _ _ _ q => q.elim)
   obtain ⟨e0o, rfl, rfl, h⟩ := i8j
   refine a7 (u7 _ _ _ _ _ _) ?_
   exact hn8 _ _ _ (hm8 _ _ h).2 ⟨((IntKind.wrap .i64 (b3F + 1)), e0o), e6w, rfl, rfl, ((e6P.bring 1).bring 1), (hm8 _ _ h).1⟩
  ·replace h := h.2 e6M
   exact hx2 _ _ (hj2 b0y H _ ((I.bring 1).bring 1) h)
 refine r9 fun j1 hx1 => ?_
 refine a7 a0F ?_
 refine f2 (ld1 Tryz.isAgg3 (I_4.at1 (o := 0) (vs := [(vi x1.b6)]) (nb rfl) rfl)) ?_
 refine a7 (k7 _ _ _ _ _ _) ?_
 refine k4 (fun e6Q => ?_) (fun e6Q => ?_)
 ·replace h := h.1 e6Q
  exact hx1 _ _ (hj1 1 0 x0 H _ ((I_4.bring 1).bring 1) h)
 ·replace h := h.2 e6Q
  refine a7 (k7 _ _ _ _ _ _) ?_
  refine k4 (fun e6R => ?_) (fun e6R => ?_)
  ·replace h := h.1 e6R
   exact hx1 _ _ (hj1 2 0 x0 H _ ((I_4.bring 1).bring 1) h)
  ·replace h := h.2 e6R
   have hj9 : ∀ (c7t : Bool) (H : Hp) (w : World) (_ : Inv w0 ps0 H0 H [bx g_2 73 (d9 x1), bx g0 111 (k3 x0)] w) (_ : K3 0 0 x1.b6 c7t x1 x0 H K), d9u (Value.pointer (some ⟨g0, 0, none⟩)) (Value.pointer (some ⟨g_2, 0, none⟩)) (vi 0) (vi 0) (vi x1.b6) (vB c7t) w j1 R E := by
    intro c7t H w I h
    unfold d9u
    intro _
    unfold K3 at h
    refine o2 (fun e6S => ?_) (fun e6S => ?_)
    ·replace h := h.1 e6S
     exact hx1 _ _ (hj1 0 1 x0 H _ ((I.bring 1).bring 1) h)
    ·replace h := h.2 e6S
     refine a7 (k7 _ _ _ _ _ _) ?_
     refine k4 (fun e6T => ?_) (fun e6T => ?_)
     ·replace h := h.1 e6T
      exact hx1 _ _ (hj1 0 0 x0 H _ ((I.bring 1).bring 1) h)
     ·replace h := h.2 e6T
      refine a7 (w7 _) ?_
      refine a7 N8 ?_
      refine m5 (I.bring 1) Tryz.sizeOf4 (vs := [(vB false)]) (cs' := [(vB false), (vB x0.fnames)]) rfl rfl (nb rfl) rfl rfl fun f8n i8k j7c => ?_
      exact hx1 _ _ (hj1 0 0 (b9.mk false x0.fnames) H _ (i8k.bring 1) h)
   refine r9 fun j9 hx9 => ?_
   refine a7 (k7 _ _ _ _ _ _) ?_
   refine k4 (fun e6U => ?_) (fun e6U => ?_)
   ·replace h := h.1 e6U
    exact hx9 _ _ (hj9 (decide (x1.b6 = 3)) H _ ((I_4.bring 1).bring 1) h)
   ·replace h := h.2 e6U
    refine a7 (k7 _ _ _ _ _ _) ?_
    refine k4 (fun e6V => ?_) (fun e6V => ?_)
    ·replace h := h.1 e6V
     exact hx9 _ _ (hj9 (decide (x1.b6 = 4)) H _ ((I_4.bring 1).bring 1) h)
    ·replace h := h.2 e6V
     refine a7 (k7 _ _ _ _ _ _) ?_
     refine k4 (fun e6W => ?_) (fun e6W => ?_)
     ·replace h := h.1 e6W
      exact hx9 _ _ (hj9 (decide (x1.b6 = 5)) H _ ((I_4.bring 1).bring 1) h)
     ·replace h := h.2 e6W
      refine a7 (k7 _ _ _ _ _ _) ?_
      exact hx9 _ _ (hj9 (decide (x1.b6 = 6)) H _ ((I_4.bring 1).bring 1) h)
theorem b5p (x0 : b9) (x1 : d6) {H : Hp} {K : b9 → Hp → Prop} (h : a2I x0 x1 H K) : Y7 x0 x1 H K := by
 intro g0 w I
 refine h6C ?_
 refine b4R x0 x1 g0 I (fun y0 H' w' I' hk => ⟨H', _, I', y0, rfl, rfl, hk⟩) h
def a3p (b6a : b9) (j5Z : d5) (O0 : g7) (H : Hp) (K : Int → Hp → Prop) : Prop :=
 a5t b6a H (fun (b7K : Int) (c9S : Hp) =>
 K b7K c9S)
def a3q (g3N : d5) (Q0 : g7) (U3 : Int) (a6o : b9) (H : Hp) (n3 : (Int × b9) → Hp → Prop) (K : Int → Hp → Prop) : Prop :=
 (((decide (U3 < (Q0.G3.n : Int))) && a6o.fok) = true →
 (0 : Int) ≤ U3 ∧ (U3 : Int) < Q0.G3.n ∧ ∃ e6X : d6, EltH H Q0.G3 U3 6 (d9 e6X) ∧
 Y7 a6o e6X H (fun (e0q : b9) (e6Y : Hp) =>
 n3 ((IntKind.wrap .i64 (U3 + 1)), e0q) e6Y)) ∧
 (((decide (U3 < (Q0.G3.n : Int))) && a6o.fok) = false →
 a3p a6o g3N Q0 H K)
def a3r (b8g : b9) (g3O : d5) (p9 : g7) (H : Hp) (K : Int → Hp → Prop) : Prop :=
 TL ((0, b8g) : Int × b9) H fun (s : Int × b9) H n3 => a3q g3O p9 s.1 s.2 H n3 K
def a3s (g3P : d5) (K1 : g7) (a1Y : Int) (a2r : b9) (H : Hp) (n4 : (Int × b9) → Hp → Prop) (K : Int → Hp → Prop) : Prop :=
 (a1Y < (K1.r5.n : Int) →
 ∃ a8V : E0, (a2r.fok = true → (0 : Int) ≤ a1Y ∧ (a1Y : Int) < K1.r5.n ∧ EltH H K1.r5 a1Y 2 (w6 a8V)) ∧
 ∃ c4d : E0, ((a2r.fok && (decide (0 ≤ a8V.a1Z))) = true → (0 : Int) ≤ a1Y ∧ (a1Y : Int) < K1.r5.n ∧ EltH H K1.r5 a1Y 2 (w6 c4d)) ∧
 (0 : Int) ≤ a1Y ∧ (a1Y : Int) < K1.r5.n ∧ ∃ d5a : E0, EltH H K1.r5 a1Y 2 (w6 d5a) ∧
 Y5 (b9.mk ((a2r.fok && (decide (0 ≤ a8V.a1Z))) && (decide (c4d.a1Z ≤ 2147483647))) a2r.fnames) d5a.f6 true H (fun (e0r : b9) (e6Z : Hp) =>
 n4 ((IntKind.wrap .i64 (a1Y + 1)), e0r) e6Z)) ∧
 (¬ (a1Y < (K1.r5.n : Int)) →
 a3r a2r g3P K1 H K)
def a4r (x0 : g7) (H : Hp) (K : Int → Hp → Prop) : Prop :=
 a3S x0 H (fun (E1 : d5) (H_6 : Hp) =>
 (¬ (E1.fbad = 0) →
 K E1.fbad H_6) ∧
 (E1.fbad = 0 →
 TL ((0, (b9.mk true true)) : Int × b9) H_6 fun (s : Int × b9) H n4 => a3s E1 x0 s.1 s.2 H n4 K))
theorem b7m (x0 : g7) {K : Int → Hp → Prop} (I : Inv w0 ps0 H0 H [] w) (hR : ∀ (r0 : Int) (H' : Hp) (w' : World) (_ : Inv w0 ps0 H0 H' [] w') (_ : K r0 H'), R (vi r0) w') (h : a4r x0 H K) : F27 (Value.agg (i5 x0).toArray) w R E := by
 unfold a4r at h
 unfold F27
 refine K6 I (cs := (i5 x0)) rfl fun g_2 w_3 I_4 k_5 => ?_
 refine f2 (ldA Tryz.isAgg25 Tryz.sizeOf25 rfl (I_4.at1 (o := 0) (vs := (i5 x0)) (nb rfl) rfl)) ?_
 refine f7 (cap := []) (fun args w => Tryz.call47 args w) ?_
 refine k8 (Fi := []) (Fr := [bx g_2 25 (i5 x0)]) I_4 (h) (fun b6Z H_6 b7a w_7 I_8 b7b k_9 a7c => ?_) (fun _ _ _ _ _ q => q.elim)
 obtain ⟨E1, rfl, rfl, h⟩ := a7c
 refine z8 I_8 Tryz.zeroValue108 (cs := [(vi 0), (vi 0), (vi 0)]) rfl fun c9T a0t a4X c0Y => ?_
 refine m5 a4X Tryz.sizeOf108 (vs := (i7 E1)) (cs' := (i7 E1)) rfl rfl (nb rfl) rfl rfl fun t8 a0f b3g => ?_
 refine a7 a0k ?_
 refine f2 (ld1 Tryz.isAgg3 (a0f.at1 (o := 2) (vs := [(vi E1.fbad)]) (nb rfl) rfl)) ?_
 refine a7 (P9 _ _ _ _ _ _) ?_
 refine a5o (fun e7a => ?_) (fun e7a => ?_)
 ·replace h := h.1 e7a
  refine a7 a0k ?_
  refine f2 (ld1 Tryz.isAgg3 (a0f.at1 (o := 2) (vs := [(vi E1.fbad)]) (nb rfl) rfl)) ?_
  exact hR E1.fbad H_6 _ a0f.drop.drop h
 ·replace h := h.2 e7a
  refine a7 (d2N _ _) ?_
  refine z8 a0f Tryz.zeroValue111 (cs := [(vB false), (vB false)]) rfl fun b9E a9K j4x k1f => ?_
  refine m5 j4x Tryz.sizeOf111 (vs := [(vB true), (vB true)]) (cs' := [(vB true), (vB true)]) rfl rfl (nb rfl) rfl rfl fun B0 b9p e5O => ?_
  have hj1 : ∀ (b8g : b9) (H : Hp) (w : World) (_ : Inv w0 ps0 H0 H [bx b9E 111 (k3 b8g), bx c9T 108 (i7 E1), bx g_2 25 (i5 x0)] w) (_ : a3r b8g E1 x0 H K), d9k (Value.pointer (some ⟨g_2, 0, none⟩)) (Value.pointer (some ⟨b9E, 0, none⟩)) w R E := by
   intro b8g H w I h
   unfold d9k
   intro _
   unfold a3r at h
   have hj2 : ∀ (b6a : b9) (H : Hp) (w : World) (_ : Inv w0 ps0 H0 H [bx b9E 111 (k3 b6a), bx c9T 108 (i7 E1), bx g_2 25 (i5 x0)] w) (_ : a3p b6a E1 x0 H K), d9h (Value.pointer (some ⟨b9E, 0, none⟩)) w R E := by
    intro b6a H w I h
    unfold d9h
    intro _
    unfold a3p at h
    refine f2 (ldA Tryz.isAgg111 Tryz.sizeOf111 rfl (I.at1 (o := 0) (vs := (k3 b6a)) (nb rfl) rfl)) ?_
    refine f7 (cap := []) (fun args w => Tryz.call50 args w) ?_
    refine k8 (Fi := []) (Fr := [bx b9E 111 (k3 b6a), bx c9T 108 (i7 E1), bx g_2 25 (i5 x0)]) I (h) (fun j4y c9S j4z b7n e7b f6F h8T f6G => ?_) (fun _ _ _ _ _ q => q.elim)
    obtain ⟨b7K, rfl, rfl, h⟩ := f6G
    exact hR b7K c9S _ e7b.drop.drop.drop h
   refine r9 fun j2 hx2 => ?_
   obtain ⟨e7c, d1K, i8l, i8m⟩ := h
   refine A7 (J := fun n l w => ∃ (s : Int × b9) (H : Hp) , n = d1K s ∧ l = (match s with | (U3, a6o) => [(vi U3)]) ∧ (match s with | (U3, a6o) => Inv w0 ps0 H0 H [bx b9E 111 (k3 a6o), bx c9T 108 (i7 E1), bx g_2 25 (i5 x0)] w) ∧ e7c s H) ⟨_, (0, b8g), H, rfl, rfl, (((I.bring 2).bring 2).bring 2), i8l⟩ ?_
   rintro j7d τ_120 w next3 ⟨⟨U3, a6o⟩, H, rfl, d5b, I, i8n⟩ hn3
   dsimp only at d5b I
   simp only [List.map_cons, List.map_nil, List.cons.injEq, and_true] at d5b
   have e6 := d5b
   simp only [e6]
   obtain ⟨n3, hm3, h⟩ : ∃ n3 : (Int × b9) → Hp → Prop, (∀ s' H', n3 s' H' → e7c s' H' ∧ d1K s' < d1K (U3, a6o)) ∧ a3q E1 x0 U3 a6o H n3 K := ⟨_, fun _ _ h => h, i8m (U3, a6o) H (fun s' H' => e7c s' H' ∧ d1K s' < d1K (U3, a6o)) i8n (fun _ _ a b => ⟨a, b⟩)⟩
   unfold f1D
   unfold a3q at h
   refine a7 a4J ?_
   refine f2 (ld1 Tryz.isAgg23 ((I.bring 2).at1 (o := 1) (vs := [(vs x0.G3)]) (nb rfl) rfl)) ?_
   refine a7 (W8 _ _ _) ?_
   refine a7 (v7 _ _ _ _ _ _) ?_
   refine a7 (Pu.g fun hb => by have d7 := hb; exact N8) ?_
   refine f2 (Ld.g fun hb => by have d7 := hb; simp only [i6 d7]; exact (ld1 Tryz.isAgg4 (I.at1 (o := 0) (vs := [(vB a6o.fok)]) (nb rfl) rfl))) ?_
   refine a7 (w8 _ _) ?_
   refine o2 (fun c3Y => ?_) (fun c3Y => ?_)
   ·replace h := h.1 c3Y
    refine a7 a4J ?_
    refine f2 (ld1 Tryz.isAgg23 ((I.bring 2).at1 (o := 1) (vs := [(vs x0.G3)]) (nb rfl) rfl)) ?_
    obtain ⟨e7d, e7e, e6X, c7u, h⟩ := h
    obtain ⟨k1g, j7e, i8o, c7u⟩ := c7u
    refine a7 (a6W i8o _ _ _ _ e7d e7e) ?_
    refine f2 (ldA (vs := (d9 e6X)) Tryz.isAgg73 Tryz.sizeOf73 rfl (I.atH c7u)) ?_
    refine f7 (cap := []) (fun args w => Tryz.call49 args w) ?_
    refine k8 (Fi := [bx b9E 111 (k3 a6o)]) (Fr := [bx c9T 108 (i7 E1), bx g_2 25 (i5 x0)]) I (h b9E) (fun j7f e6Y j7g a4L i8p j7h j7i i8q => ?_) (fun _ _ _ _ _ q => q.elim)
    obtain ⟨e0q, rfl, rfl, h⟩ := i8q
    refine a7 (u7 _ _ _ _ _ _) ?_
    exact hn3 _ _ _ (hm3 _ _ h).2 ⟨((IntKind.wrap .i64 (U3 + 1)), e0q), e6Y, rfl, rfl, (((i8p.bring 2).bring 2).bring 2), (hm3 _ _ h).1⟩
   ·replace h := h.2 c3Y
    exact hx2 _ _ (hj2 a6o H _ (((I.bring 2).bring 2).bring 2) h)
  refine r9 fun j1 hx1 => ?_
  obtain ⟨e7f, d1L, i8r, i8s⟩ := h
  refine A7 (J := fun n l w => ∃ (s : Int × b9) (H : Hp) , n = d1L s ∧ l = (match s with | (a1Y, a2r) => [(vi a1Y)]) ∧ (match s with | (a1Y, a2r) => Inv w0 ps0 H0 H [bx b9E 111 (k3 a2r), bx c9T 108 (i7 E1), bx g_2 25 (i5 x0)] w) ∧ e7f s H) ⟨_, (0, (b9.mk true true)), H_6, rfl, rfl, (((b9p.bring 2).bring 2).bring 2), i8r⟩ ?_
  rintro j7j τ_171 w next4 ⟨⟨a1Y, a2r⟩, H, rfl, d5c, I, i8t⟩ hn4
  dsimp only at d5c I
  simp only [List.map_cons, List.map_nil, List.cons.injEq, and_true] at d5c
  have e5 := d5c
  simp only [e5]
  obtain ⟨n4, hm4, h⟩ : ∃ n4 : (Int × b9) → Hp → Prop, (∀ s' H', n4 s' H' → e7f s' H' ∧ d1L s' < d1L (a1Y, a2r)) ∧ a3s E1 x0 a1Y a2r H n4 K := ⟨_, fun _ _ h => h, i8s (a1Y, a2r) H (fun s' H' => e7f s' H' ∧ d1L s' < d1L (a1Y, a2r)) i8t (fun _ _ a b => ⟨a, b⟩)⟩
  unfold f1E
  unfold a3s at h
  refine a7 Z1 ?_
  refine f2 (ld1 Tryz.isAgg22 ((I.bring 2).at1 (o := 0) (vs := [(vs x0.r5)]) (nb rfl) rfl)) ?_
  refine a7 (a9V _ _ _) ?_
  refine a7 (v7 _ _ _ _ _ _) ?_
  refine k4 (fun e7g => ?_) (fun e7g => ?_)
  ·replace h := h.1 e7g
   refine a7 N8 ?_
   refine f2 (ld1 Tryz.isAgg4 (I.at1 (o := 0) (vs := [(vB a2r.fok)]) (nb rfl) rfl)) ?_
   refine a7 (Pu.g fun hb => by have d7 := hb; exact Z1) ?_
   refine f2 (Ld.g fun hb => by have d7 := hb; simp only [i6 d7]; exact (ld1 Tryz.isAgg22 ((I.bring 2).at1 (o := 0) (vs := [(vs x0.r5)]) (nb rfl) rfl))) ?_
   simp only [z2]
   obtain ⟨a8V, b6n, h⟩ := h
   obtain ⟨i8u, i8v, b6n⟩ := c6O b6n
   refine a7 (Pu.g fun hb => by have d7 := hb; simp only [i6 d7]; exact (b5u (b6n hb).2.2.1 _ _ _ _ (b6n hb).1 (b6n hb).2.1)) ?_
   refine a7 (Pu.g fun hb => by have d7 := hb; simp only [i6 d7]; exact b7u) ?_
   refine f2 (Ld.g fun hb => by have d7 := hb; simp only [i6 d7]; exact (ld1 (v := (vi a8V.a1Z)) Tryz.isAgg3 ((I.atH (b6n hb).2.2.2).sub (k := 1) (n := 1) (nb rfl)))) ?_
   refine a7 (Pu.g fun hb => by have d7 := hb; simp only [i6 d7]; exact (a7e _ _ _ _ _ _)) ?_
   refine a7 (w8 _ _) ?_
   refine a7 (Pu.g fun hb => by have d7 := hb; exact Z1) ?_
   refine f2 (Ld.g fun hb => by have d7 := hb; simp only [i6 d7]; exact (ld1 Tryz.isAgg22 ((I.bring 2).at1 (o := 0) (vs := [(vs x0.r5)]) (nb rfl) rfl))) ?_
   simp only [z2]
   obtain ⟨c4d, c7v, h⟩ := h
   obtain ⟨f8D, j7k, c7v⟩ := c6O c7v
   refine a7 (Pu.g fun hb => by have d7 := hb; simp only [i6 d7]; exact (b5u (c7v hb).2.2.1 _ _ _ _ (c7v hb).1 (c7v hb).2.1)) ?_
   refine a7 (Pu.g fun hb => by have d7 := hb; simp only [i6 d7]; exact b7u) ?_
   refine f2 (Ld.g fun hb => by have d7 := hb; simp only [i6 d7]; exact (ld1 (v := (vi c4d.a1Z)) Tryz.isAgg3 ((I.atH (c7v hb).2.2.2).sub (k := 1) (n := 1) (nb rfl)))) ?_
   refine a7 (Pu.g fun hb => by have d7 := hb; simp only [i6 d7]; exact (b4a _ _ _ _ _ _)) ?_
   refine a7 (w8 _ _) ?_
   refine a7 N8 ?_
   refine m5 I Tryz.sizeOf4 (vs := [(vB ((a2r.fok && (decide (0 ≤ a8V.a1Z))) && (decide (c4d.a1Z ≤ 2147483647))))]) (cs' := [(vB ((a2r.fok && (decide (0 ≤ a8V.a1Z))) && (decide (c4d.a1Z ≤ 2147483647)))), (vB a2r.fnames)]) rfl rfl (nb rfl) rfl rfl fun a6s b6o e7h => ?_
   refine a7 Z1 ?_
   refine f2 (ld1 Tryz.isAgg22 ((b6o.bring 2).at1 (o := 0) (vs := [(vs x0.r5)]) (nb rfl) rfl)) ?_
   obtain ⟨i8w, d5d, d5a, e7i, h⟩ := h
   obtain ⟨j7l, j7m, i8x, e7i⟩ := e7i
   refine a7 (b5u i8x _ _ _ _ i8w d5d) ?_
   refine a7 d0r ?_
   refine f2 (ld1 (v := (Value.string d5a.f6)) Tryz.isAgg9 ((b6o.atH e7i).sub (k := 0) (n := 1) (nb rfl))) ?_
   refine f7 (cap := []) (fun args w => Tryz.call48 args w) ?_
   refine k8 (Fi := [bx b9E 111 [(vB ((a2r.fok && (decide (0 ≤ a8V.a1Z))) && (decide (c4d.a1Z ≤ 2147483647)))), (vB a2r.fnames)]]) (Fr := [bx c9T 108 (i7 E1), bx g_2 25 (i5 x0)]) b6o (h b9E) (fun j7n e6Z i8y d0w c7w j7o i8z i8A => ?_) (fun _ _ _ _ _ q => q.elim)
   obtain ⟨e0r, rfl, rfl, h⟩ := i8A
   refine a7 (u7 _ _ _ _ _ _) ?_
   exact hn4 _ _ _ (hm4 _ _ h).2 ⟨((IntKind.wrap .i64 (a1Y + 1)), e0r), e6Z, rfl, rfl, (((c7w.bring 2).bring 2).bring 2), (hm4 _ _ h).1⟩
  ·replace h := h.2 e7g
   exact hx1 _ _ (hj1 a2r H _ (((I.bring 2).bring 2).bring 2) h)
theorem b7L (x0 : g7) {H : Hp} {K : Int → Hp → Prop} (h : a4r x0 H K) : a4l x0 H K := by
 intro w I
 refine h5S ?_
 refine b7m x0 I (fun r0 H' w' I' hk => ⟨H', _, I', r0, rfl, rfl, hk⟩) h
end Go.Proofs.YtnhkdkcgdcgmdaaGreatDoor
