/- Typed formulas of the program's functions that few laws need; printed by lift.py off the code. -/
import Derived.Test.YtnhkdkcgdcgmdaaGreatDoorzFV1
import Derived.Test.YtnhkdkcgdcgmdaaGreatDoorzFG1z
namespace Go.Proofs.YtnhkdkcgdcgmdaaGreatDoor
open Go.RowKit
set_option maxRecDepth 100000
set_option maxHeartbeats 2000000
variable {w0 w : World} {ps0 : Nat → Prop} {H0 H : Hp} {R : RT} {E : Pan}
def a9H (x0 : b8) (H : Hp) (K : Int → Hp → Prop) : Prop :=
 ∀ (s_7 : Sl) (a5j : Hp), Hle H a5j → SlH a5j 1 w8 s_7 [(i5.Q1 (R7.mk x0))] → s_7.n ≤ s_7.c →
 a4Z s_7 a5j (fun (b9y : o5) (d2y : Hp) =>
 K b9y.fe d2y)
theorem c7T (x0 : b8) {K : Int → Hp → Prop} (I : Inv w0 ps0 H0 H [] w) (hR : ∀ (r0 : Int) (H' : Hp) (w' : World) (_ : Inv w0 ps0 H0 H' [] w') (_ : K r0 H'), R (vi r0) w') (h : a9H x0 H K) : F41 (Value.agg (d6 x0).toArray) w R E := by
 unfold a9H at h
 unfold F41
 refine J5 I (cs := (d6 x0)) rfl fun g_2 w_3 I_4 k_5 => ?_
 refine f7 (ldA Tryz.isAgg59 Tryz.sizeOf59 rfl (I_4.at1 (o := 0) (vs := (d6 x0)) (nb rfl) rfl)) ?_
 refine a7 (c8h _ _ _ _ _ _ _ _) ?_
 refine a7 (c4n (R7.mk x0)) ?_
 refine a5A (e := 150) (c := w8) (xs := [(i5.Q1 (R7.mk x0))]) I_4 (b6Q _) rfl rfl T6 V6 (nb rfl) fun s_7 F_8 w_9 b2Q a3l b4q => ?_
 obtain ⟨a5j, L9, c5X, a7J, b7t⟩ := Inv.freezeC a3l b2Q (by decide)
 replace h := h s_7 a5j c5X a7J b7t
 refine g9 (cap := []) (fun args w => Tryz.call65 args w) ?_
 refine l7 (Fi := []) (Fr := [bx g_2 59 (d6 x0)]) L9 (h) (fun k1X d2y k1Y a1R b3L k1Z d7c f9S => ?_) (fun _ _ _ _ _ q => q.elim)
 obtain ⟨b9y, i3s, rfl, rfl, h⟩ := f9S
 refine a7 (A7 _) ?_
 refine a7 a9S ?_
 refine f7 (ld1 Tryz.isAgg27 (b3L.at1 (o := 2) (vs := [(vi b9y.fe)]) (nb rfl) rfl)) ?_
 exact hR b9y.fe d2y _ b3L.drop.drop h
theorem c9q (x0 : b8) {H : Hp} {K : Int → Hp → Prop} (h : a9H x0 H K) : b2D x0 H K := by
 intro w I
 refine i4h ?_
 refine c7T x0 I (fun r0 H' w' I' hk => ⟨H', _, I', r0, rfl, rfl, hk⟩) h
def a2h (x0 : d7) (H : Hp) (K : Int → Hp → Prop) : Prop :=
 ((!x0.fok) = true →
 K 30 H) ∧
 ((!x0.fok) = false →
 ((!x0.fnames) = true →
 K 31 H) ∧
 ((!x0.fnames) = false →
 K 0 H))
theorem b6d (x0 : d7) {K : Int → Hp → Prop} (I : Inv w0 ps0 H0 H [] w) (hR : ∀ (r0 : Int) (H' : Hp) (w' : World) (_ : Inv w0 ps0 H0 H' [] w') (_ : K r0 H'), R (vi r0) w') (h : a2h x0 H K) : F50 (Value.agg (l8 x0).toArray) w R E := by
 unfold a2h at h
 unfold F50
 refine J5 I (cs := (l8 x0)) rfl fun g_2 w_3 I_4 k_5 => ?_
 refine a7 L6 ?_
 refine f7 (ld1 Tryz.isAgg4 (I_4.at1 (o := 0) (vs := [(vB x0.fok)]) (nb rfl) rfl)) ?_
 refine a7 (T4 _) ?_
 refine o0 (fun c_7 => ?_) (fun c_7 => ?_)
 ·replace h := h.1 c_7
  exact hR 30 H _ I_4.drop h
 ·replace h := h.2 c_7
  refine a7 c3p ?_
  refine f7 (ld1 Tryz.isAgg4 (I_4.at1 (o := 1) (vs := [(vB x0.fnames)]) (nb rfl) rfl)) ?_
  refine a7 (T4 _) ?_
  refine o0 (fun c_6 => ?_) (fun c_6 => ?_)
  ·replace h := h.1 c_6
   exact hR 31 H _ I_4.drop h
  ·replace h := h.2 c_6
   exact hR 0 H _ I_4.drop h
theorem b6G (x0 : d7) {H : Hp} {K : Int → Hp → Prop} (h : a2h x0 H K) : a5C x0 H K := by
 intro w I
 refine i4P ?_
 refine b6d x0 I (fun r0 H' w' I' hk => ⟨H', _, I', r0, rfl, rfl, hk⟩) h
def a3p (c9r : Int) (b2U : Int) (a6Q : Int) (H : Hp) (K : Int → Int → Bool → Hp → Prop) : Prop :=
 ((((decide (a6Q < b2U)) || (decide (1114111 < a6Q))) || ((decide (55296 ≤ a6Q)) && (decide (a6Q < 57344)))) = true →
 K 65533 1 false H) ∧
 ((((decide (a6Q < b2U)) || (decide (1114111 < a6Q))) || ((decide (55296 ≤ a6Q)) && (decide (a6Q < 57344)))) = false →
 K a6Q c9r true H)
def a3q (b7B : ByteArray) (b3N : Int) (g1C : Int) (k2P : Int) (b4i : Int) (a1M : Int) (H : Hp) (n3 : (Int × Int) → Hp → Prop) (K : Int → Int → Bool → Hp → Prop) : Prop :=
 (a1M < g1C →
 ((decide ((b7B.size : Int) ≤ (IntKind.wrap .i64 (b3N + a1M)))) = false → (0 : Int) ≤ IntKind.wrap .i64 (b3N + a1M) ∧ IntKind.wrap .i64 (b3N + a1M) < (b7B.size : Int)) ∧
 (((decide ((b7B.size : Int) ≤ (IntKind.wrap .i64 (b3N + a1M)))) || (decide (((b7B.get! (IntKind.wrap .i64 (b3N + a1M) : Int).toNat).toNat : Int) < 128))) = false → (0 : Int) ≤ IntKind.wrap .i64 (b3N + a1M) ∧ IntKind.wrap .i64 (b3N + a1M) < (b7B.size : Int)) ∧
 ((((decide ((b7B.size : Int) ≤ (IntKind.wrap .i64 (b3N + a1M)))) || (decide (((b7B.get! (IntKind.wrap .i64 (b3N + a1M) : Int).toNat).toNat : Int) < 128))) || (decide (192 ≤ ((b7B.get! (IntKind.wrap .i64 (b3N + a1M) : Int).toNat).toNat : Int)))) = true →
 K 65533 1 false H) ∧
 ((((decide ((b7B.size : Int) ≤ (IntKind.wrap .i64 (b3N + a1M)))) || (decide (((b7B.get! (IntKind.wrap .i64 (b3N + a1M) : Int).toNat).toNat : Int) < 128))) || (decide (192 ≤ ((b7B.get! (IntKind.wrap .i64 (b3N + a1M) : Int).toNat).toNat : Int)))) = false →
 (0 : Int) ≤ IntKind.wrap .i64 (b3N + a1M) ∧ IntKind.wrap .i64 (b3N + a1M) < (b7B.size : Int) ∧
 n3 ((IntKind.wrap .i64 ((IntKind.wrap .i64 ((IntKind.wrap .i64 (64 * b4i)) + (IntKind.wrap .i64 ((b7B.get! (IntKind.wrap .i64 (b3N + a1M) : Int).toNat).toNat : Int)))) - 128)), (IntKind.wrap .i64 (a1M + 1))) H)) ∧
 (¬ (a1M < g1C) →
 a3p g1C k2P b4i H K)
def Q9 (d7h : ByteArray) (d2X : Int) (b3O : Int) (c9s : Int) (d0A : Int) (H : Hp) (K : Int → Int → Bool → Hp → Prop) : Prop :=
 TL ((d0A, 1) : Int × Int) H fun (s : Int × Int) H n3 => a3q d7h d2X b3O c9s s.1 s.2 H n3 K
def a5l (x0 : ByteArray) (x1 : Int) (H : Hp) (K : Int → Int → Bool → Hp → Prop) : Prop :=
 (0 : Int) ≤ x1 ∧ x1 < (x0.size : Int) ∧
 ((IntKind.wrap .i64 ((x0.get! (x1 : Int).toNat).toNat : Int)) < 128 →
 K (IntKind.wrap .i64 ((x0.get! (x1 : Int).toNat).toNat : Int)) 1 true H) ∧
 (¬ ((IntKind.wrap .i64 ((x0.get! (x1 : Int).toNat).toNat : Int)) < 128) →
 (((decide (194 ≤ (IntKind.wrap .i64 ((x0.get! (x1 : Int).toNat).toNat : Int)))) && (decide ((IntKind.wrap .i64 ((x0.get! (x1 : Int).toNat).toNat : Int)) < 224))) = true →
 Q9 x0 x1 2 128 (IntKind.wrap .i64 ((IntKind.wrap .i64 ((x0.get! (x1 : Int).toNat).toNat : Int)) - 192)) H K) ∧
 (((decide (194 ≤ (IntKind.wrap .i64 ((x0.get! (x1 : Int).toNat).toNat : Int)))) && (decide ((IntKind.wrap .i64 ((x0.get! (x1 : Int).toNat).toNat : Int)) < 224))) = false →
 (((decide (224 ≤ (IntKind.wrap .i64 ((x0.get! (x1 : Int).toNat).toNat : Int)))) && (decide ((IntKind.wrap .i64 ((x0.get! (x1 : Int).toNat).toNat : Int)) < 240))) = true →
 Q9 x0 x1 3 2048 (IntKind.wrap .i64 ((IntKind.wrap .i64 ((x0.get! (x1 : Int).toNat).toNat : Int)) - 224)) H K) ∧
 (((decide (224 ≤ (IntKind.wrap .i64 ((x0.get! (x1 : Int).toNat).toNat : Int)))) && (decide ((IntKind.wrap .i64 ((x0.get! (x1 : Int).toNat).toNat : Int)) < 240))) = false →
 (((decide (240 ≤ (IntKind.wrap .i64 ((x0.get! (x1 : Int).toNat).toNat : Int)))) && (decide ((IntKind.wrap .i64 ((x0.get! (x1 : Int).toNat).toNat : Int)) < 245))) = true →
 Q9 x0 x1 4 65536 (IntKind.wrap .i64 ((IntKind.wrap .i64 ((x0.get! (x1 : Int).toNat).toNat : Int)) - 240)) H K) ∧
 (((decide (240 ≤ (IntKind.wrap .i64 ((x0.get! (x1 : Int).toNat).toNat : Int)))) && (decide ((IntKind.wrap .i64 ((x0.get! (x1 : Int).toNat).toNat : Int)) < 245))) = false →
 K 65533 1 false H))))
theorem b9C (x0 : ByteArray) (x1 : Int) {K : Int → Int → Bool → Hp → Prop} (I : Inv w0 ps0 H0 H [] w) (hR : ∀ (r0 : Int) (r1 : Int) (r2 : Bool) (H' : Hp) (w' : World) (_ : Inv w0 ps0 H0 H' [] w') (_ : K r0 r1 r2 H'), R (Value.tuple #[(vi r0), (vi r1), (vB r2)]) w') (h : a5l x0 x1 H K) : f0w (Value.string x0) (vi x1) w R E := by
 unfold a5l at h
 unfold f0w
 obtain ⟨h_1, h_2, h⟩ := h
 refine a7 (c4p _ _ _ h_1 h_2) ?_
 refine a7 (c8i _ _) ?_
 have hj1 : ∀ (b3O : Int) (c9s : Int) (d0A : Int) (H : Hp) (w : World) (_ : Inv w0 ps0 H0 H [] w) (_ : Q9 x0 x1 b3O c9s d0A H K), d7r (Value.string x0) (vi x1) (vi b3O) (vi c9s) (vi d0A) w R E := by
  intro b3O c9s d0A H w I h
  unfold d7r
  intro _
  unfold Q9 at h
  have hj2 : ∀ (a6Q : Int) (H : Hp) (w : World) (_ : Inv w0 ps0 H0 H [] w) (_ : a3p b3O c9s a6Q H K), d7q (vi b3O) (vi c9s) (vi a6Q) w R E := by
   intro a6Q H w I h
   unfold d7q
   intro _
   unfold a3p at h
   refine a7 (w9 _ _ _ _ _ _) ?_
   simp only [u5]
   refine a7 (Pu.g fun hb => by have b9 := hb; simp only [i7 b9]; exact (a4M _ _ _ _ _ _)) ?_
   refine a7 (J4 _ _) ?_
   simp only [u5]
   refine a7 (Pu.g fun hb => by have b9 := hb; simp only [i7 b9]; exact (a7M _ _ _ _ _ _)) ?_
   simp only [b1b, b8n]
   refine a7 (Pu.e (a5x _ _ _) (Pu.g fun hb => by obtain ⟨b9, a3x⟩ := a9s hb; simp only [i7 hb]; exact (w9 _ _ _ _ _ _))) ?_
   refine a7 (Pu.g fun hb => by have b9 := hb; simp only [i7 b9, b5u b9]; exact (s7 _ _)) ?_
   refine a7 (J4 _ _) ?_
   refine o0 (fun c1y => ?_) (fun c1y => ?_)
   ·replace h := h.1 c1y
    exact hR 65533 1 false H _ I h
   ·replace h := h.2 c1y
    exact hR a6Q b3O true H _ I h
  refine t6 fun j2 hx2 => ?_
  obtain ⟨g1D, e3S, k2Q, k2R⟩ := h
  refine B5 (J := fun n l w => ∃ (s : Int × Int) (H : Hp) , n = e3S s ∧ l = (match s with | (b4i, a1M) => [(vi b4i), (vi a1M)]) ∧ (match s with | (b4i, a1M) => Inv w0 ps0 H0 H [] w) ∧ g1D s H) ⟨_, (d0A, 1), H, rfl, rfl, I, k2Q⟩ ?_
  rintro l1i τ_19 w next3 ⟨⟨b4i, a1M⟩, H, rfl, d7t, I, k2S⟩ hn3
  dsimp only at d7t I
  simp only [List.map_cons, List.map_nil, List.cons.injEq, and_true] at d7t
  obtain ⟨e10, e11⟩ := d7t
  simp only [e10, e11]
  obtain ⟨n3, hm3, h⟩ : ∃ n3 : (Int × Int) → Hp → Prop, (∀ s' H', n3 s' H' → g1D s' H' ∧ e3S s' < e3S (b4i, a1M)) ∧ a3q x0 x1 b3O c9s b4i a1M H n3 K := ⟨_, fun _ _ h => h, k2R (b4i, a1M) H (fun s' H' => g1D s' H' ∧ e3S s' < e3S (b4i, a1M)) k2S (fun _ _ a b => ⟨a, b⟩)⟩
  unfold e7b
  unfold a3q at h
  refine a7 (w9 _ _ _ _ _ _) ?_
  refine k7 (fun d2T => ?_) (fun d2T => ?_)
  ·replace h := h.1 d2T
   refine a7 (y6 _ _ _ _ _ _) ?_
   refine a7 (c5v _) ?_
   refine a7 (a7M _ _ _ _ _ _) ?_
   simp only [u5]
   refine a7 (Pu.g fun hb => by have b9 := hb; simp only [i7 b9]; exact (y6 _ _ _ _ _ _)) ?_
   obtain ⟨h_5, h⟩ := h
   refine a7 (Pu.g fun hb => by have b9 := hb; simp only [i7 b9]; exact (c4p _ _ _ (h_5 hb).1 (h_5 hb).2)) ?_
   refine a7 (Pu.g fun hb => by have b9 := hb; simp only [i7 b9]; exact (w9 _ _ _ _ _ _)) ?_
   refine a7 (J4 _ _) ?_
   simp only [u5]
   refine a7 (Pu.g fun hb => by have b9 := hb; simp only [i7 b9]; exact (y6 _ _ _ _ _ _)) ?_
   obtain ⟨h_8, h⟩ := h
   refine a7 (Pu.g fun hb => by have b9 := hb; simp only [i7 b9]; exact (c4p _ _ _ (h_8 hb).1 (h_8 hb).2)) ?_
   refine a7 (Pu.g fun hb => by have b9 := hb; simp only [i7 b9]; exact (a7M _ _ _ _ _ _)) ?_
   refine a7 (J4 _ _) ?_
   refine o0 (fun a6D => ?_) (fun a6D => ?_)
   ·replace h := h.1 a6D
    exact hR 65533 1 false H _ I h
   ·replace h := h.2 a6D
    refine a7 (b5t _ _ _ _ _ _) ?_
    refine a7 (y6 _ _ _ _ _ _) ?_
    obtain ⟨h_9, b2Q, h⟩ := h
    refine a7 (c4p _ _ _ h_9 b2Q) ?_
    refine a7 (c8i _ _) ?_
    refine a7 (y6 _ _ _ _ _ _) ?_
    refine a7 (b2r _ _ _ _ _ _) ?_
    refine a7 (y6 _ _ _ _ _ _) ?_
    exact hn3 _ _ _ (hm3 _ _ h).2 ⟨((IntKind.wrap .i64 ((IntKind.wrap .i64 ((IntKind.wrap .i64 (64 * b4i)) + (IntKind.wrap .i64 ((x0.get! (IntKind.wrap .i64 (x1 + a1M) : Int).toNat).toNat : Int)))) - 128)), (IntKind.wrap .i64 (a1M + 1))), H, rfl, rfl, I, (hm3 _ _ h).1⟩
  ·replace h := h.2 d2T
   exact hx2 _ _ (hj2 b4i H _ I h)
 refine t6 fun j1 hx1 => ?_
 refine a7 (w9 _ _ _ _ _ _) ?_
 refine k7 (fun d2V => ?_) (fun d2V => ?_)
 ·replace h := h.1 d2V
  exact hR (IntKind.wrap .i64 ((x0.get! (x1 : Int).toNat).toNat : Int)) 1 true H _ I h
 ·replace h := h.2 d2V
  refine a7 (a7M _ _ _ _ _ _) ?_
  simp only [u5]
  refine a7 (Pu.g fun hb => by have b9 := hb; simp only [i7 b9]; exact (w9 _ _ _ _ _ _)) ?_
  refine a7 (s7 _ _) ?_
  refine o0 (fun b4K => ?_) (fun b4K => ?_)
  ·replace h := h.1 b4K
   refine a7 (b2r _ _ _ _ _ _) ?_
   exact hx1 _ _ (hj1 2 128 (IntKind.wrap .i64 ((IntKind.wrap .i64 ((x0.get! (x1 : Int).toNat).toNat : Int)) - 192)) H _ I h)
  ·replace h := h.2 b4K
   refine a7 (a7M _ _ _ _ _ _) ?_
   simp only [u5]
   refine a7 (Pu.g fun hb => by have b9 := hb; simp only [i7 b9]; exact (w9 _ _ _ _ _ _)) ?_
   refine a7 (s7 _ _) ?_
   refine o0 (fun c1o => ?_) (fun c1o => ?_)
   ·replace h := h.1 c1o
    refine a7 (b2r _ _ _ _ _ _) ?_
    exact hx1 _ _ (hj1 3 2048 (IntKind.wrap .i64 ((IntKind.wrap .i64 ((x0.get! (x1 : Int).toNat).toNat : Int)) - 224)) H _ I h)
   ·replace h := h.2 c1o
    refine a7 (a7M _ _ _ _ _ _) ?_
    simp only [u5]
    refine a7 (Pu.g fun hb => by have b9 := hb; simp only [i7 b9]; exact (w9 _ _ _ _ _ _)) ?_
    refine a7 (s7 _ _) ?_
    refine o0 (fun b4L => ?_) (fun b4L => ?_)
    ·replace h := h.1 b4L
     refine a7 (b2r _ _ _ _ _ _) ?_
     exact hx1 _ _ (hj1 4 65536 (IntKind.wrap .i64 ((IntKind.wrap .i64 ((x0.get! (x1 : Int).toNat).toNat : Int)) - 240)) H _ I h)
    ·replace h := h.2 b4L
     exact hR 65533 1 false H _ I h
theorem c1z (x0 : ByteArray) (x1 : Int) {H : Hp} {K : Int → Int → Bool → Hp → Prop} (h : a5l x0 x1 H K) : a8H x0 x1 H K := by
 intro w I
 refine h0D ?_
 refine b9C x0 x1 I (fun r0 r1 r2 H' w' I' hk => ⟨H', _, I', r0, r1, r2, rfl, rfl, hk⟩) h
def a7k (x0 : Int) (x1 : Int) (x2 : Int) (H : Hp) (K : Bool → Hp → Prop) : Prop :=
 K ((decide (x1 ≤ x0)) && (decide (x0 ≤ x2))) H
theorem b7C (x0 : Int) (x1 : Int) (x2 : Int) {K : Bool → Hp → Prop} (I : Inv w0 ps0 H0 H [] w) (hR : ∀ (r0 : Bool) (H' : Hp) (w' : World) (_ : Inv w0 ps0 H0 H' [] w') (_ : K r0 H'), R (vB r0) w') (h : a7k x0 x1 x2 H K) : f0y (vi x0) (vi x1) (vi x2) w R E := by
 unfold a7k at h
 unfold f0y
 refine a7 (a7M _ _ _ _ _ _) ?_
 simp only [u5]
 refine a7 (Pu.g fun hb => by have b9 := hb; simp only [i7 b9]; exact (b3S _ _ _ _ _ _)) ?_
 refine a7 (s7 _ _) ?_
 exact hR ((decide (x1 ≤ x0)) && (decide (x0 ≤ x2))) H _ I h
theorem b8A (x0 : Int) (x1 : Int) (x2 : Int) {H : Hp} {K : Bool → Hp → Prop} (h : a7k x0 x1 x2 H K) : A4 x0 x1 x2 H K := by
 intro w I
 refine h0H ?_
 refine b7C x0 x1 x2 I (fun r0 H' w' I' hk => ⟨H', _, I', r0, rfl, rfl, hk⟩) h
def a2Q (H : Hp) (K : Int → Hp → Prop) : Prop :=
 K 6 H
def M0 (b2e : Int) (b0S : ByteArray) (N6 : Int) (H : Hp) (n2 : Int → Hp → Prop) (K : Int → Hp → Prop) : Prop :=
 (N6 < (b0S.size : Int) →
 (0 : Int) ≤ N6 ∧ N6 < (b0S.size : Int) ∧
 (b2e = (IntKind.wrap .i64 ((b0S.get! (N6 : Int).toNat).toNat : Int)) →
 K 5 H) ∧
 (¬ (b2e = (IntKind.wrap .i64 ((b0S.get! (N6 : Int).toNat).toNat : Int))) →
 n2 (IntKind.wrap .i64 (N6 + 1)) H)) ∧
 (¬ (N6 < (b0S.size : Int)) →
 a2Q H K)
def a4q (x0 : Int) (H : Hp) (K : Int → Hp → Prop) : Prop :=
 ((((decide (x0 = 32)) || (decide (x0 = 9))) || (decide (x0 = 13))) = true →
 K 1 H) ∧
 ((((decide (x0 = 32)) || (decide (x0 = 9))) || (decide (x0 = 13))) = false →
 (x0 = 10 →
 K 2 H) ∧
 (¬ (x0 = 10) →
 A4 x0 48 57 H (fun (B2 : Bool) (H_1 : Hp) =>
 (B2 = true →
 K 4 H_1) ∧
 (B2 = false →
 A4 x0 97 122 H_1 (fun (y9 : Bool) (a1h : Hp) =>
 TG (y9 = false) (A4 x0 65 90 a1h) false a1h (fun (E6 : Bool) (Q4 : Hp) =>
 TG (((y9 || E6) || (decide (x0 = 95))) = false) (A4 x0 192 591 Q4) false Q4 (fun (a1v : Bool) (b1y : Hp) =>
 TG ((((y9 || E6) || (decide (x0 = 95))) || ((a1v && (!decide (x0 = 215))) && (!decide (x0 = 247)))) = false) (A4 x0 913 969 b1y) false b1y (fun (a2R : Bool) (a9k : Hp) =>
 TG (((((y9 || E6) || (decide (x0 = 95))) || ((a1v && (!decide (x0 = 215))) && (!decide (x0 = 247)))) || (a2R && (!decide (x0 = 930)))) = false) (A4 x0 1040 1103 a9k) false a9k (fun (a5m : Bool) (a7K : Hp) =>
 ((((((y9 || E6) || (decide (x0 = 95))) || ((a1v && (!decide (x0 = 215))) && (!decide (x0 = 247)))) || (a2R && (!decide (x0 = 930)))) || a5m) = true →
 K 3 a7K) ∧
 ((((((y9 || E6) || (decide (x0 = 95))) || ((a1v && (!decide (x0 = 215))) && (!decide (x0 = 247)))) || (a2R && (!decide (x0 = 930)))) || a5m) = false →
 TL (0 : Int) a7K fun (s : Int) H n2 => M0 x0 ⟨#[59, 44, 123, 125, 40, 41, 91, 93, 61, 33, 60, 62, 43, 45, 42, 47, 37, 38, 124]⟩ s H n2 K))))))))))
theorem b9b (x0 : Int) {K : Int → Hp → Prop} (I : Inv w0 ps0 H0 H [] w) (hR : ∀ (r0 : Int) (H' : Hp) (w' : World) (_ : Inv w0 ps0 H0 H' [] w') (_ : K r0 H'), R (vi r0) w') (h : a4q x0 H K) : f0x (vi x0) w R E := by
 unfold a4q at h
 unfold f0x
 refine a7 (i8 _ _ _ _ _ _) ?_
 simp only [u5]
 refine a7 (Pu.g fun hb => by have b9 := hb; simp only [i7 b9]; exact (i8 _ _ _ _ _ _)) ?_
 refine a7 (J4 _ _) ?_
 simp only [u5]
 refine a7 (Pu.g fun hb => by have b9 := hb; simp only [i7 b9]; exact (i8 _ _ _ _ _ _)) ?_
 refine a7 (J4 _ _) ?_
 refine o0 (fun b4F => ?_) (fun b4F => ?_)
 ·replace h := h.1 b4F
  exact hR 1 H _ I h
 ·replace h := h.2 b4F
  refine a7 (i8 _ _ _ _ _ _) ?_
  refine k7 (fun c1j => ?_) (fun c1j => ?_)
  ·replace h := h.1 c1j
   exact hR 2 H _ I h
  ·replace h := h.2 c1j
   refine g9 (cap := []) (fun args w => Tryz.call156 args w) ?_
   refine l7 (Fi := []) (Fr := []) I (h) (fun v_5 H_1 F_6 w_2 I_3 l_8 k_4 q_7 => ?_) (fun _ _ _ _ _ q => q.elim)
   obtain ⟨B2, rfl, rfl, h⟩ := q_7
   refine o0 (fun a8J => ?_) (fun a8J => ?_)
   ·replace h := h.1 a8J
    exact hR 4 H_1 _ I_3 h
   ·replace h := h.2 a8J
    refine g9 (cap := []) (fun args w => Tryz.call156 args w) ?_
    refine l7 (Fi := []) (Fr := []) I_3 (h) (fun c5I a1h d6R P0 B1 c0E b6Y b6Z => ?_) (fun _ _ _ _ _ q => q.elim)
    obtain ⟨y9, rfl, rfl, h⟩ := b6Z
    simp only [u5]
    refine X8 (D := fun c3C r9 => ∃ (E6 : Bool) (Q4 : Hp) , c3C = (gv y9 false (vB E6)) ∧ (Inv w0 ps0 H0 Q4 [] r9) ∧ (∀ i, i < P0.heap.size → ¬ inF [] i → r9.heap[i]? = P0.heap[i]?) ∧ Hle a1h Q4 ∧ (TG (((y9 || E6) || (decide (x0 = 95))) = false) (A4 x0 192 591 Q4) false Q4 (fun (a1v : Bool) (b1y : Hp) =>
 TG ((((y9 || E6) || (decide (x0 = 95))) || ((a1v && (!decide (x0 = 215))) && (!decide (x0 = 247)))) = false) (A4 x0 913 969 b1y) false b1y (fun (a2R : Bool) (a9k : Hp) =>
 TG (((((y9 || E6) || (decide (x0 = 95))) || ((a1v && (!decide (x0 = 215))) && (!decide (x0 = 247)))) || (a2R && (!decide (x0 = 930)))) = false) (A4 x0 1040 1103 a9k) false a9k (fun (a5m : Bool) (a7K : Hp) =>
 ((((((y9 || E6) || (decide (x0 = 95))) || ((a1v && (!decide (x0 = 215))) && (!decide (x0 = 247)))) || (a2R && (!decide (x0 = 930)))) || a5m) = true →
 K 3 a7K) ∧
 ((((((y9 || E6) || (decide (x0 = 95))) || ((a1v && (!decide (x0 = 215))) && (!decide (x0 = 247)))) || (a2R && (!decide (x0 = 930)))) || a5m) = false →
 TL (0 : Int) a7K fun (s : Int) H n2 => M0 x0 ⟨#[59, 44, 123, 125, 40, 41, 91, 93, 61, 33, 60, 62, 43, 45, 42, 47, 37, 38, 124]⟩ s H n2 K)))))) (fun e3T => ?_) (fun e3T => ?_) ?_
    ·replace h := h.1 e3T
     have b9 := e3T
     simp only [i7 b9]
     refine g9 (cap := []) (fun args w => Tryz.call156 args w) ?_
     refine l7 (Fi := []) (Fr := []) B1 (h) (fun c3C Q4 e8K r9 a0h c3D b4p c5J => ?_) (fun _ _ _ _ _ q => q.elim)
     obtain ⟨E6, rfl, rfl, h⟩ := c5J
     exact ⟨E6, Q4, by rfl, a0h, b4p, c3D, h⟩
    ·exact ⟨false, a1h, by rw [a4L e3T], B1, fun _ _ _ => rfl, Hle.refl _, h.2 e3T⟩
    ·clear h
     rintro c3C r9 ⟨E6, Q4, rfl, a0h, b4p, c3D, h⟩
     refine a7 (J4 _ _) ?_
     simp only [u5]
     refine a7 (Pu.g fun hb => by have b9 := hb; simp only [i7 b9]; exact (i8 _ _ _ _ _ _)) ?_
     refine a7 (J4 _ _) ?_
     simp only [u5]
     refine X8 (D := fun f0z a4y => ∃ (a1v : Bool) (b1y : Hp) , f0z = (gv ((y9 || E6) || (decide (x0 = 95))) false (vB a1v)) ∧ (Inv w0 ps0 H0 b1y [] a4y) ∧ (∀ i, i < r9.heap.size → ¬ inF [] i → a4y.heap[i]? = r9.heap[i]?) ∧ Hle Q4 b1y ∧ (TG ((((y9 || E6) || (decide (x0 = 95))) || ((a1v && (!decide (x0 = 215))) && (!decide (x0 = 247)))) = false) (A4 x0 913 969 b1y) false b1y (fun (a2R : Bool) (a9k : Hp) =>
 TG (((((y9 || E6) || (decide (x0 = 95))) || ((a1v && (!decide (x0 = 215))) && (!decide (x0 = 247)))) || (a2R && (!decide (x0 = 930)))) = false) (A4 x0 1040 1103 a9k) false a9k (fun (a5m : Bool) (a7K : Hp) =>
 ((((((y9 || E6) || (decide (x0 = 95))) || ((a1v && (!decide (x0 = 215))) && (!decide (x0 = 247)))) || (a2R && (!decide (x0 = 930)))) || a5m) = true →
 K 3 a7K) ∧
 ((((((y9 || E6) || (decide (x0 = 95))) || ((a1v && (!decide (x0 = 215))) && (!decide (x0 = 247)))) || (a2R && (!decide (x0 = 930)))) || a5m) = false →
 TL (0 : Int) a7K fun (s : Int) H n2 => M0 x0 ⟨#[59, 44, 123, 125, 40, 41, 91, 93, 61, 33, 60, 62, 43, 45, 42, 47, 37, 38, 124]⟩ s H n2 K))))) (fun b7m => ?_) (fun b7m => ?_) ?_
     ·replace h := h.1 b7m
      have b9 := b7m
      simp only [i7 b9]
      refine g9 (cap := []) (fun args w => Tryz.call156 args w) ?_
      refine l7 (Fi := []) (Fr := []) a0h (h) (fun f0z b1y b0L a4y T8 c5C a9i g1E => ?_) (fun _ _ _ _ _ q => q.elim)
      obtain ⟨a1v, rfl, rfl, h⟩ := g1E
      exact ⟨a1v, b1y, by rfl, T8, a9i, c5C, h⟩
     ·exact ⟨false, Q4, by rw [a4L b7m], a0h, fun _ _ _ => rfl, Hle.refl _, h.2 b7m⟩
     ·clear h
      rintro f0z a4y ⟨a1v, b1y, rfl, T8, a9i, c5C, h⟩
      simp only [b1b, b8n]
      refine a7 (Pu.e (a5x _ _ _) (Pu.g fun hb => by obtain ⟨b9, a3x⟩ := a9s hb; simp only [i7 hb]; exact (M7 _ _ _ _ _ _))) ?_
      refine a7 (Pu.g fun hb => by have b9 := hb; simp only [i7 b9, b5u b9]; exact (s7 _ _)) ?_
      simp only [b1b, b8n]
      refine a7 (Pu.e (a5x _ _ _) (Pu.g fun hb => by obtain ⟨b9, a3x⟩ := a9s hb; simp only [i7 hb]; exact (M7 _ _ _ _ _ _))) ?_
      refine a7 (Pu.g fun hb => by have b9 := hb; simp only [i7 b9, b5u b9]; exact (s7 _ _)) ?_
      refine a7 (J4 _ _) ?_
      simp only [u5]
      refine X8 (D := fun f0A C7 => ∃ (a2R : Bool) (a9k : Hp) , f0A = (gv (((y9 || E6) || (decide (x0 = 95))) || ((a1v && (!decide (x0 = 215))) && (!decide (x0 = 247)))) false (vB a2R)) ∧ (Inv w0 ps0 H0 a9k [] C7) ∧ (∀ i, i < a4y.heap.size → ¬ inF [] i → C7.heap[i]? = a4y.heap[i]?) ∧ Hle b1y a9k ∧ (TG (((((y9 || E6) || (decide (x0 = 95))) || ((a1v && (!decide (x0 = 215))) && (!decide (x0 = 247)))) || (a2R && (!decide (x0 = 930)))) = false) (A4 x0 1040 1103 a9k) false a9k (fun (a5m : Bool) (a7K : Hp) =>
 ((((((y9 || E6) || (decide (x0 = 95))) || ((a1v && (!decide (x0 = 215))) && (!decide (x0 = 247)))) || (a2R && (!decide (x0 = 930)))) || a5m) = true →
 K 3 a7K) ∧
 ((((((y9 || E6) || (decide (x0 = 95))) || ((a1v && (!decide (x0 = 215))) && (!decide (x0 = 247)))) || (a2R && (!decide (x0 = 930)))) || a5m) = false →
 TL (0 : Int) a7K fun (s : Int) H n2 => M0 x0 ⟨#[59, 44, 123, 125, 40, 41, 91, 93, 61, 33, 60, 62, 43, 45, 42, 47, 37, 38, 124]⟩ s H n2 K)))) (fun e3U => ?_) (fun e3U => ?_) ?_
      ·replace h := h.1 e3U
       have b9 := e3U
       simp only [i7 b9]
       refine g9 (cap := []) (fun args w => Tryz.call156 args w) ?_
       refine l7 (Fi := []) (Fr := []) T8 (h) (fun f0A a9k k2T C7 b4I d7j g1F g1G => ?_) (fun _ _ _ _ _ q => q.elim)
       obtain ⟨a2R, rfl, rfl, h⟩ := g1G
       exact ⟨a2R, a9k, by rfl, b4I, g1F, d7j, h⟩
      ·exact ⟨false, b1y, by rw [a4L e3U], T8, fun _ _ _ => rfl, Hle.refl _, h.2 e3U⟩
      ·clear h
       rintro f0A C7 ⟨a2R, a9k, rfl, b4I, g1F, d7j, h⟩
       simp only [b1b, b8n]
       refine a7 (Pu.e (a5x _ _ _) (Pu.g fun hb => by obtain ⟨b9, a3x⟩ := a9s hb; simp only [i7 hb]; exact (M7 _ _ _ _ _ _))) ?_
       refine a7 (Pu.g fun hb => by have b9 := hb; simp only [i7 b9, b5u b9]; exact (s7 _ _)) ?_
       refine a7 (J4 _ _) ?_
       simp only [u5]
       refine X8 (D := fun f0B b5A => ∃ (a5m : Bool) (a7K : Hp) , f0B = (gv ((((y9 || E6) || (decide (x0 = 95))) || ((a1v && (!decide (x0 = 215))) && (!decide (x0 = 247)))) || (a2R && (!decide (x0 = 930)))) false (vB a5m)) ∧ (Inv w0 ps0 H0 a7K [] b5A) ∧ (∀ i, i < C7.heap.size → ¬ inF [] i → b5A.heap[i]? = C7.heap[i]?) ∧ Hle a9k a7K ∧ (((((((y9 || E6) || (decide (x0 = 95))) || ((a1v && (!decide (x0 = 215))) && (!decide (x0 = 247)))) || (a2R && (!decide (x0 = 930)))) || a5m) = true →
 K 3 a7K) ∧
 ((((((y9 || E6) || (decide (x0 = 95))) || ((a1v && (!decide (x0 = 215))) && (!decide (x0 = 247)))) || (a2R && (!decide (x0 = 930)))) || a5m) = false →
 TL (0 : Int) a7K fun (s : Int) H n2 => M0 x0 ⟨#[59, 44, 123, 125, 40, 41, 91, 93, 61, 33, 60, 62, 43, 45, 42, 47, 37, 38, 124]⟩ s H n2 K))) (fun e3V => ?_) (fun e3V => ?_) ?_
       ·replace h := h.1 e3V
        have b9 := e3V
        simp only [i7 b9]
        refine g9 (cap := []) (fun args w => Tryz.call156 args w) ?_
        refine l7 (Fi := []) (Fr := []) b4I (h) (fun f0B a7K k2U b5A c9t e2A g1H g1I => ?_) (fun _ _ _ _ _ q => q.elim)
        obtain ⟨a5m, rfl, rfl, h⟩ := g1I
        exact ⟨a5m, a7K, by rfl, c9t, g1H, e2A, h⟩
       ·exact ⟨false, a9k, by rw [a4L e3V], b4I, fun _ _ _ => rfl, Hle.refl _, h.2 e3V⟩
       ·clear h
        rintro f0B b5A ⟨a5m, a7K, rfl, c9t, g1H, e2A, h⟩
        refine a7 (J4 _ _) ?_
        refine o0 (fun d2J => ?_) (fun d2J => ?_)
        ·replace h := h.1 d2J
         exact hR 3 a7K _ c9t h
        ·replace h := h.2 d2J
         have hj1 : ∀ (H : Hp) (w : World) (_ : Inv w0 ps0 H0 H [] w) (_ : a2Q H K), d7s w R E := by
          intro H w I h
          unfold d7s
          intro _
          unfold a2Q at h
          exact hR 6 H _ I h
         refine t6 fun j1 hx1 => ?_
         obtain ⟨g1J, e3W, k2V, k2W⟩ := h
         refine B5 (J := fun n l w => ∃ (s : Int) (H : Hp) , n = e3W s ∧ l = [(vi s)] ∧ Inv w0 ps0 H0 H [] w ∧ g1J s H) ⟨_, 0, a7K, rfl, rfl, c9t, k2V⟩ ?_
         rintro l1j τ_64 w next2 ⟨N6, H, rfl, e3X, I, k2X⟩ hn2
         simp only [List.map_cons, List.map_nil, List.cons.injEq, and_true] at e3X
         have e4 := e3X
         simp only [e4]
         obtain ⟨n2, hm2, h⟩ : ∃ n2 : Int → Hp → Prop, (∀ s' H', n2 s' H' → g1J s' H' ∧ e3W s' < e3W N6) ∧ M0 x0 ⟨#[59, 44, 123, 125, 40, 41, 91, 93, 61, 33, 60, 62, 43, 45, 42, 47, 37, 38, 124]⟩ N6 H n2 K := ⟨_, fun _ _ h => h, k2W N6 H (fun s' H' => g1J s' H' ∧ e3W s' < e3W N6) k2X (fun _ _ a b => ⟨a, b⟩)⟩
         unfold e7c
         unfold M0 at h
         refine a7 (c5v _) ?_
         refine a7 (w9 _ _ _ _ _ _) ?_
         refine k7 (fun c1A => ?_) (fun c1A => ?_)
         ·replace h := h.1 c1A
          obtain ⟨c9b, c0K, h⟩ := h
          refine a7 (c4p _ _ _ c9b c0K) ?_
          refine a7 (c8i _ _) ?_
          refine a7 (i8 _ _ _ _ _ _) ?_
          refine k7 (fun d2Y => ?_) (fun d2Y => ?_)
          ·replace h := h.1 d2Y
           exact hR 5 H _ I h
          ·replace h := h.2 d2Y
           refine a7 (y6 _ _ _ _ _ _) ?_
           exact hn2 _ _ _ (hm2 _ _ h).2 ⟨(IntKind.wrap .i64 (N6 + 1)), H, rfl, rfl, I, (hm2 _ _ h).1⟩
         ·replace h := h.2 c1A
          exact hx1 _ _ (hj1 H _ I h)
theorem b9D (x0 : Int) {H : Hp} {K : Int → Hp → Prop} (h : a4q x0 H K) : a7W x0 H K := by
 intro w I
 refine h0F ?_
 refine b9b x0 I (fun r0 H' w' I' hk => ⟨H', _, I', r0, rfl, rfl, hk⟩) h
def r6 (w7 : Bool) (H : Hp) (K : Bool → Hp → Prop) : Prop :=
 (w7 = true →
 K true H) ∧
 (w7 = false →
 K false H)
def a5o (x0 : ByteArray) (H : Hp) (K : Bool → Hp → Prop) : Prop :=
 (x0 = ⟨#[118, 97, 114]⟩ →
 r6 (decide (x0 = ⟨#[118, 97, 114]⟩)) H K) ∧
 (¬ (x0 = ⟨#[118, 97, 114]⟩) →
 (x0 = ⟨#[97, 114, 114, 97, 121]⟩ →
 r6 (decide (x0 = ⟨#[97, 114, 114, 97, 121]⟩)) H K) ∧
 (¬ (x0 = ⟨#[97, 114, 114, 97, 121]⟩) →
 (x0 = ⟨#[105, 102]⟩ →
 r6 (decide (x0 = ⟨#[105, 102]⟩)) H K) ∧
 (¬ (x0 = ⟨#[105, 102]⟩) →
 (x0 = ⟨#[101, 108, 115, 101]⟩ →
 r6 (decide (x0 = ⟨#[101, 108, 115, 101]⟩)) H K) ∧
 (¬ (x0 = ⟨#[101, 108, 115, 101]⟩) →
 (x0 = ⟨#[119, 104, 105, 108, 101]⟩ →
 r6 (decide (x0 = ⟨#[119, 104, 105, 108, 101]⟩)) H K) ∧
 (¬ (x0 = ⟨#[119, 104, 105, 108, 101]⟩) →
 (x0 = ⟨#[97, 115, 115, 101, 114, 116]⟩ →
 r6 (decide (x0 = ⟨#[97, 115, 115, 101, 114, 116]⟩)) H K) ∧
 (¬ (x0 = ⟨#[97, 115, 115, 101, 114, 116]⟩) →
 (x0 = ⟨#[97, 115, 115, 117, 109, 101]⟩ →
 r6 (decide (x0 = ⟨#[97, 115, 115, 117, 109, 101]⟩)) H K) ∧
 (¬ (x0 = ⟨#[97, 115, 115, 117, 109, 101]⟩) →
 (x0 = ⟨#[115, 107, 105, 112]⟩ →
 r6 (decide (x0 = ⟨#[115, 107, 105, 112]⟩)) H K) ∧
 (¬ (x0 = ⟨#[115, 107, 105, 112]⟩) →
 (x0 = ⟨#[105, 110, 112, 117, 116]⟩ →
 r6 (decide (x0 = ⟨#[105, 110, 112, 117, 116]⟩)) H K) ∧
 (¬ (x0 = ⟨#[105, 110, 112, 117, 116]⟩) →
 (x0 = ⟨#[116, 114, 117, 101]⟩ →
 r6 (decide (x0 = ⟨#[116, 114, 117, 101]⟩)) H K) ∧
 (¬ (x0 = ⟨#[116, 114, 117, 101]⟩) →
 r6 (decide (x0 = ⟨#[102, 97, 108, 115, 101]⟩)) H K))))))))))
theorem b9E (x0 : ByteArray) {K : Bool → Hp → Prop} (I : Inv w0 ps0 H0 H [] w) (hR : ∀ (r0 : Bool) (H' : Hp) (w' : World) (_ : Inv w0 ps0 H0 H' [] w') (_ : K r0 H'), R (vB r0) w') (h : a5o x0 H K) : f0u (Value.string x0) w R E := by
 unfold a5o at h
 unfold f0u
 have hj1 : ∀ (w7 : Bool) (H : Hp) (w : World) (_ : Inv w0 ps0 H0 H [] w) (_ : r6 w7 H K), d7p (vB w7) w R E := by
  intro w7 H w I h
  unfold d7p
  intro _
  unfold r6 at h
  refine o0 (fun c_1 => ?_) (fun c_1 => ?_)
  ·replace h := h.1 c_1
   exact hR true H _ I h
  ·replace h := h.2 c_1
   exact hR false H _ I h
 refine t6 fun j1 hx1 => ?_
 refine a7 (W2 _ _ _ _ _) ?_
 refine k7 (fun a6D => ?_) (fun a6D => ?_)
 ·replace h := h.1 a6D
  exact hx1 _ _ (hj1 (decide (x0 = ⟨#[118, 97, 114]⟩)) H _ I h)
 ·replace h := h.2 a6D
  refine a7 (W2 _ _ _ _ _) ?_
  refine k7 (fun d2u => ?_) (fun d2u => ?_)
  ·replace h := h.1 d2u
   exact hx1 _ _ (hj1 (decide (x0 = ⟨#[97, 114, 114, 97, 121]⟩)) H _ I h)
  ·replace h := h.2 d2u
   refine a7 (W2 _ _ _ _ _) ?_
   refine k7 (fun c_9 => ?_) (fun c_9 => ?_)
   ·replace h := h.1 c_9
    exact hx1 _ _ (hj1 (decide (x0 = ⟨#[105, 102]⟩)) H _ I h)
   ·replace h := h.2 c_9
    refine a7 (W2 _ _ _ _ _) ?_
    refine k7 (fun c_8 => ?_) (fun c_8 => ?_)
    ·replace h := h.1 c_8
     exact hx1 _ _ (hj1 (decide (x0 = ⟨#[101, 108, 115, 101]⟩)) H _ I h)
    ·replace h := h.2 c_8
     refine a7 (W2 _ _ _ _ _) ?_
     refine k7 (fun c_7 => ?_) (fun c_7 => ?_)
     ·replace h := h.1 c_7
      exact hx1 _ _ (hj1 (decide (x0 = ⟨#[119, 104, 105, 108, 101]⟩)) H _ I h)
     ·replace h := h.2 c_7
      refine a7 (W2 _ _ _ _ _) ?_
      refine k7 (fun c_6 => ?_) (fun c_6 => ?_)
      ·replace h := h.1 c_6
       exact hx1 _ _ (hj1 (decide (x0 = ⟨#[97, 115, 115, 101, 114, 116]⟩)) H _ I h)
      ·replace h := h.2 c_6
       refine a7 (W2 _ _ _ _ _) ?_
       refine k7 (fun c_5 => ?_) (fun c_5 => ?_)
       ·replace h := h.1 c_5
        exact hx1 _ _ (hj1 (decide (x0 = ⟨#[97, 115, 115, 117, 109, 101]⟩)) H _ I h)
       ·replace h := h.2 c_5
        refine a7 (W2 _ _ _ _ _) ?_
        refine k7 (fun c_4 => ?_) (fun c_4 => ?_)
        ·replace h := h.1 c_4
         exact hx1 _ _ (hj1 (decide (x0 = ⟨#[115, 107, 105, 112]⟩)) H _ I h)
        ·replace h := h.2 c_4
         refine a7 (W2 _ _ _ _ _) ?_
         refine k7 (fun c_3 => ?_) (fun c_3 => ?_)
         ·replace h := h.1 c_3
          exact hx1 _ _ (hj1 (decide (x0 = ⟨#[105, 110, 112, 117, 116]⟩)) H _ I h)
         ·replace h := h.2 c_3
          refine a7 (W2 _ _ _ _ _) ?_
          refine k7 (fun c_2 => ?_) (fun c_2 => ?_)
          ·replace h := h.1 c_2
           exact hx1 _ _ (hj1 (decide (x0 = ⟨#[116, 114, 117, 101]⟩)) H _ I h)
          ·replace h := h.2 c_2
           refine a7 (W2 _ _ _ _ _) ?_
           exact hx1 _ _ (hj1 (decide (x0 = ⟨#[102, 97, 108, 115, 101]⟩)) H _ I h)
theorem c1B (x0 : ByteArray) {H : Hp} {K : Bool → Hp → Prop} (h : a5o x0 H K) : a8I x0 H K := by
 intro w I
 refine h0B ?_
 refine b9E x0 I (fun r0 H' w' I' hk => ⟨H', _, I', r0, rfl, rfl, hk⟩) h
def a3r (b3M : Int) (H : Hp) (K : Bool → Hp → Prop) : Prop :=
 K (decide (b3M ≤ 32)) H
def a0j (b2e : ByteArray) (b0S : Int) (N6 : Int) (H : Hp) (n2 : (Int × Int) → Hp → Prop) (K : Bool → Hp → Prop) : Prop :=
 (N6 < (b2e.size : Int) →
 a8H b2e N6 H (fun (y9 : Int) (b2p : Int) (d8P : Bool) (a1h : Hp) =>
 a7W y9 a1h (fun (E6 : Int) (Q4 : Hp) =>
 (((!d8P) || ((!decide (E6 = 3)) && ((!decide (E6 = 4)) || (decide (b0S = 0))))) = true →
 K false Q4) ∧
 (((!d8P) || ((!decide (E6 = 3)) && ((!decide (E6 = 4)) || (decide (b0S = 0))))) = false →
 n2 ((IntKind.wrap .i64 (b0S + 1)), (IntKind.wrap .i64 (N6 + b2p))) Q4)))) ∧
 (¬ (N6 < (b2e.size : Int)) →
 a3r b0S H K)
def a5p (x0 : ByteArray) (H : Hp) (K : Bool → Hp → Prop) : Prop :=
 TG (((decide (x0 = ⟨#[]⟩)) || (decide (128 < (x0.size : Int)))) = false) (a8I x0 H) false H (fun (B2 : Bool) (H_1 : Hp) =>
 ((((decide (x0 = ⟨#[]⟩)) || (decide (128 < (x0.size : Int)))) || B2) = true →
 K false H_1) ∧
 ((((decide (x0 = ⟨#[]⟩)) || (decide (128 < (x0.size : Int)))) || B2) = false →
 TL ((0, 0) : Int × Int) H_1 fun (s : Int × Int) H n2 => a0j x0 s.1 s.2 H n2 K))
theorem b9F (x0 : ByteArray) {K : Bool → Hp → Prop} (I : Inv w0 ps0 H0 H [] w) (hR : ∀ (r0 : Bool) (H' : Hp) (w' : World) (_ : Inv w0 ps0 H0 H' [] w') (_ : K r0 H'), R (vB r0) w') (h : a5p x0 H K) : F86 (Value.string x0) w R E := by
 unfold a5p at h
 unfold F86
 refine a7 (W2 _ _ _ _ _) ?_
 simp only [u5]
 refine a7 (Pu.g fun hb => by have b9 := hb; simp only [i7 b9]; exact (c5v _)) ?_
 refine a7 (Pu.g fun hb => by have b9 := hb; simp only [i7 b9]; exact (a4M _ _ _ _ _ _)) ?_
 refine a7 (J4 _ _) ?_
 simp only [u5]
 refine X8 (D := fun v_5 w_2 => ∃ (B2 : Bool) (H_1 : Hp) , v_5 = (gv ((decide (x0 = ⟨#[]⟩)) || (decide (128 < (x0.size : Int)))) false (vB B2)) ∧ (Inv w0 ps0 H0 H_1 [] w_2) ∧ (∀ i, i < w.heap.size → ¬ inF [] i → w_2.heap[i]? = w.heap[i]?) ∧ Hle H H_1 ∧ (((((decide (x0 = ⟨#[]⟩)) || (decide (128 < (x0.size : Int)))) || B2) = true →
 K false H_1) ∧
 ((((decide (x0 = ⟨#[]⟩)) || (decide (128 < (x0.size : Int)))) || B2) = false →
 TL ((0, 0) : Int × Int) H_1 fun (s : Int × Int) H n2 => a0j x0 s.1 s.2 H n2 K))) (fun e3Y => ?_) (fun e3Y => ?_) ?_
 ·replace h := h.1 e3Y
  have b9 := e3Y
  simp only [i7 b9]
  refine g9 (cap := []) (fun args w => Tryz.call122 args w) ?_
  refine l7 (Fi := []) (Fr := []) I (h) (fun v_5 H_1 F_6 w_2 I_3 l_8 k_4 q_7 => ?_) (fun _ _ _ _ _ q => q.elim)
  obtain ⟨B2, rfl, rfl, h⟩ := q_7
  exact ⟨B2, H_1, by rfl, I_3, k_4, l_8, h⟩
 ·exact ⟨false, H, by rw [a4L e3Y], I, fun _ _ _ => rfl, Hle.refl _, h.2 e3Y⟩
 ·clear h
  rintro v_5 w_2 ⟨B2, H_1, rfl, I_3, k_4, l_8, h⟩
  refine a7 (J4 _ _) ?_
  refine o0 (fun g1K => ?_) (fun g1K => ?_)
  ·replace h := h.1 g1K
   exact hR false H_1 _ I_3 h
  ·replace h := h.2 g1K
   have hj1 : ∀ (b3M : Int) (H : Hp) (w : World) (_ : Inv w0 ps0 H0 H [] w) (_ : a3r b3M H K), e3k (vi b3M) w R E := by
    intro b3M H w I h
    unfold e3k
    intro _
    unfold a3r at h
    refine a7 (b3S _ _ _ _ _ _) ?_
    exact hR (decide (b3M ≤ 32)) H _ I h
   refine t6 fun j1 hx1 => ?_
   obtain ⟨g1L, e3Z, k2Y, k2Z⟩ := h
   refine B5 (J := fun n l w => ∃ (s : Int × Int) (H : Hp) , n = e3Z s ∧ l = (match s with | (b0S, N6) => [(vi b0S), (vi N6)]) ∧ (match s with | (b0S, N6) => Inv w0 ps0 H0 H [] w) ∧ g1L s H) ⟨_, (0, 0), H_1, rfl, rfl, I_3, k2Y⟩ ?_
   rintro l1k τ_35 w next2 ⟨⟨b0S, N6⟩, H, rfl, c8Y, I, k3a⟩ hn2
   dsimp only at c8Y I
   simp only [List.map_cons, List.map_nil, List.cons.injEq, and_true] at c8Y
   obtain ⟨e3, e4⟩ := c8Y
   simp only [e3, e4]
   obtain ⟨n2, hm2, h⟩ : ∃ n2 : (Int × Int) → Hp → Prop, (∀ s' H', n2 s' H' → g1L s' H' ∧ e3Z s' < e3Z (b0S, N6)) ∧ a0j x0 b0S N6 H n2 K := ⟨_, fun _ _ h => h, k2Z (b0S, N6) H (fun s' H' => g1L s' H' ∧ e3Z s' < e3Z (b0S, N6)) k3a (fun _ _ a b => ⟨a, b⟩)⟩
   unfold f7l
   unfold a0j at h
   refine a7 (c5v _) ?_
   refine a7 (w9 _ _ _ _ _ _) ?_
   refine k7 (fun c0S => ?_) (fun c0S => ?_)
   ·replace h := h.1 c0S
    refine g9 (cap := []) (fun args w => Tryz.call123 args w) ?_
    refine l7 (Fi := []) (Fr := []) I (h) (fun c5I a1h d6R P0 B1 c0E b6Y b6Z => ?_) (fun _ _ _ _ _ q => q.elim)
    obtain ⟨y9, b2p, d8P, rfl, rfl, h⟩ := b6Z
    refine a7 (o2 _ _ (vi y9) rfl) ?_
    refine a7 (o2 _ _ (vi b2p) rfl) ?_
    refine a7 (o2 _ _ (vB d8P) rfl) ?_
    refine g9 (cap := []) (fun args w => Tryz.call124 args w) ?_
    refine l7 (Fi := []) (Fr := []) B1 (h) (fun c3C Q4 e8K r9 a0h c3D b4p c5J => ?_) (fun _ _ _ _ _ q => q.elim)
    obtain ⟨E6, rfl, rfl, h⟩ := c5J
    refine a7 (T4 _) ?_
    simp only [u5]
    refine a7 (Pu.g fun hb => by have b9 := hb; simp only [i7 b9]; exact (M7 _ _ _ _ _ _)) ?_
    simp only [b1b, b8n]
    refine a7 (Pu.e (a5x _ _ _) (Pu.g fun hb => by obtain ⟨b9, a3x⟩ := a9s hb; simp only [i7 hb]; exact (M7 _ _ _ _ _ _))) ?_
    simp only [b1b, f5q]
    refine a7 (Pu.e (a7n _ _ _) (Pu.g fun hb => by obtain ⟨d2Z, g1M⟩ := a9r hb; obtain ⟨b9, a3x⟩ := a9s d2Z; simp only [i7 hb]; exact (i8 _ _ _ _ _ _))) ?_
    refine a7 (Pu.e (a5x _ _ _) (Pu.g fun hb => by obtain ⟨b9, a3x⟩ := a9s hb; simp only [i7 hb, c8a hb]; exact (J4 _ _))) ?_
    refine a7 (Pu.g fun hb => by have b9 := hb; simp only [i7 b9, b5u b9]; exact (s7 _ _)) ?_
    refine a7 (J4 _ _) ?_
    refine o0 (fun d3a => ?_) (fun d3a => ?_)
    ·replace h := h.1 d3a
     exact hR false Q4 _ a0h h
    ·replace h := h.2 d3a
     refine a7 (y6 _ _ _ _ _ _) ?_
     refine a7 (y6 _ _ _ _ _ _) ?_
     exact hn2 _ _ _ (hm2 _ _ h).2 ⟨((IntKind.wrap .i64 (b0S + 1)), (IntKind.wrap .i64 (N6 + b2p))), Q4, rfl, rfl, a0h, (hm2 _ _ h).1⟩
   ·replace h := h.2 c0S
    exact hx1 _ _ (hj1 b0S H _ I h)
theorem c1C (x0 : ByteArray) {H : Hp} {K : Bool → Hp → Prop} (h : a5p x0 H K) : a5b x0 H K := by
 intro w I
 refine i4X ?_
 refine b9F x0 I (fun r0 H' w' I' hk => ⟨H', _, I', r0, rfl, rfl, hk⟩) h
def a2i (x0 : d7) (x1 : ByteArray) (x2 : Bool) (H : Hp) (K : d7 → Hp → Prop) : Prop :=
 ((!x2) = true →
 K (d7.mk (x0.fok && (decide (x1 = ⟨#[]⟩))) x0.fnames) H) ∧
 ((!x2) = false →
 TG (x0.fnames = true) (a5b x1 H) false H (fun (b8b : Bool) (H_4 : Hp) =>
 K (d7.mk x0.fok (x0.fnames && b8b)) H_4))
theorem b6e (x0 : d7) (x1 : ByteArray) (x2 : Bool) (g0 : Nat) {K : d7 → Hp → Prop} (I : Inv w0 ps0 H0 H [bx g0 111 (l8 x0)] w) (hR : ∀ (y0 : d7) (H' : Hp) (w' : World) (_ : Inv w0 ps0 H0 H' [bx g0 111 (l8 y0)] w') (_ : K y0 H'), R (Value.tuple #[]) w') (h : a2i x0 x1 x2 H K) : F48 (Value.pointer (some ⟨g0, 0, none⟩)) (Value.string x1) (vB x2) w R E := by
 unfold a2i at h
 unfold F48
 refine a7 (T4 _) ?_
 refine o0 (fun b4J => ?_) (fun b4J => ?_)
 ·replace h := h.1 b4J
  refine a7 (A7 _) ?_
  refine a7 L6 ?_
  refine f7 (ld1 Tryz.isAgg4 (I.at1 (o := 0) (vs := [(vB x0.fok)]) (nb rfl) rfl)) ?_
  simp only [u5]
  refine a7 (Pu.g fun hb => by have b9 := hb; simp only [i7 b9]; exact (W2 _ _ _ _ _)) ?_
  refine a7 (s7 _ _) ?_
  refine a7 (A7 _) ?_
  refine a7 L6 ?_
  refine m6 I Tryz.sizeOf4 (vs := [(vB (x0.fok && (decide (x1 = ⟨#[]⟩))))]) (cs' := [(vB (x0.fok && (decide (x1 = ⟨#[]⟩)))), (vB x0.fnames)]) rfl rfl (nb rfl) rfl rfl fun w_1 I_2 k_3 => ?_
  exact hR (d7.mk (x0.fok && (decide (x1 = ⟨#[]⟩))) x0.fnames) H _ I_2 h
 ·replace h := h.2 b4J
  refine a7 (A7 _) ?_
  refine a7 c3p ?_
  refine f7 (ld1 Tryz.isAgg4 (I.at1 (o := 1) (vs := [(vB x0.fnames)]) (nb rfl) rfl)) ?_
  simp only [u5]
  refine X8 (D := fun v_8 w_5 => ∃ (b8b : Bool) (H_4 : Hp) , v_8 = (gv x0.fnames true (vB b8b)) ∧ (Inv w0 ps0 H0 H_4 [bx g0 111 (l8 x0)] w_5) ∧ (∀ i, i < w.heap.size → ¬ inF [] i → w_5.heap[i]? = w.heap[i]?) ∧ Hle H H_4 ∧ (K (d7.mk x0.fok (x0.fnames && b8b)) H_4)) (fun e4a => ?_) (fun e4a => ?_) ?_
  ·replace h := h.1 e4a
   have b9 := e4a
   simp only [i7 b9]
   refine g9 (cap := []) (fun args w => Tryz.call86 args w) ?_
   refine l7 (Fi := []) (Fr := [bx g0 111 (l8 x0)]) I (h) (fun v_8 H_4 F_9 w_5 I_6 d1Y k_7 k3b => ?_) (fun _ _ _ _ _ q => q.elim)
   obtain ⟨b8b, rfl, rfl, h⟩ := k3b
   exact ⟨b8b, H_4, by rfl, I_6, k_7, d1Y, h⟩
  ·exact ⟨false, H, by rw [a4L e4a], I, fun _ _ _ => rfl, Hle.refl _, h.2 e4a⟩
  ·clear h
   rintro v_8 w_5 ⟨b8b, H_4, rfl, I_6, k_7, d1Y, h⟩
   refine a7 (s7 _ _) ?_
   refine a7 (A7 _) ?_
   refine a7 c3p ?_
   refine m6 I_6 Tryz.sizeOf4 (vs := [(vB (x0.fnames && b8b))]) (cs' := [(vB x0.fok), (vB (x0.fnames && b8b))]) rfl rfl (nb rfl) rfl rfl fun a2s L9 a4z => ?_
   exact hR (d7.mk x0.fok (x0.fnames && b8b)) H_4 _ L9 h
theorem b6H (x0 : d7) (x1 : ByteArray) (x2 : Bool) {H : Hp} {K : d7 → Hp → Prop} (h : a2i x0 x1 x2 H K) : X9 x0 x1 x2 H K := by
 intro g0 w I
 refine i4l ?_
 refine b6e x0 x1 x2 g0 I (fun y0 H' w' I' hk => ⟨H', _, I', y0, rfl, rfl, hk⟩) h
def a0L (a3z : a8) (G6 : Int) (a0y : d7) (H : Hp) (n2 : (Int × d7) → Hp → Prop) (K : d7 → Hp → Prop) : Prop :=
 (((decide (G6 < (a3z.i4.n : Int))) && a0y.fok) = true →
 (0 : Int) ≤ G6 ∧ (G6 : Int) < a3z.i4.n ∧ ∃ f0C : a8, EltH H a3z.i4 G6 4 (b7 f0C) ∧
 Y0 a0y f0C H (fun (f0D : d7) (g1N : Hp) =>
 n2 ((IntKind.wrap .i64 (G6 + 1)), f0D) g1N)) ∧
 (((decide (G6 < (a3z.i4.n : Int))) && a0y.fok) = false →
 K a0y H)
def I5 (w7 : Int) (r7 : a8) (R1 : d7) (H : Hp) (K : d7 → Hp → Prop) : Prop :=
 X9 R1 r7.g7 ((decide (r7.b6 = 2)) || (decide (r7.b6 = 4))) H (fun (U6 : d7) (H_6 : Hp) =>
 TL ((0, (d7.mk ((U6.fok && (decide ((r7.i4.n : Int) = w7))) && ((decide (r7.m8 = 0)) || ((decide (r7.b6 = 1)) && (decide (0 < r7.m8))))) U6.fnames)) : Int × d7) H_6 fun (s : Int × d7) H n2 => a0L r7 s.1 s.2 H n2 K)
def C8 (g1O : Int) (d0B : Bool) (d4G : a8) (g4U : d7) (H : Hp) (K : d7 → Hp → Prop) : Prop :=
 (d0B = true →
 I5 2 d4G g4U H K) ∧
 (d0B = false →
 I5 g1O d4G (d7.mk false g4U.fnames) H K)
def P7 (d3b : Int) (b7D : Int) (d0C : Bool) (b0Q : a8) (b3m : d7) (H : Hp) (K : d7 → Hp → Prop) : Prop :=
 (d0C = true →
 I5 1 b0Q b3m H K) ∧
 (d0C = false →
 (b7D = 6 →
 C8 d3b (decide (b7D = 6)) b0Q b3m H K) ∧
 (¬ (b7D = 6) →
 (b7D = 7 →
 C8 d3b (decide (b7D = 7)) b0Q b3m H K) ∧
 (¬ (b7D = 7) →
 (b7D = 8 →
 C8 d3b (decide (b7D = 8)) b0Q b3m H K) ∧
 (¬ (b7D = 8) →
 (b7D = 9 →
 C8 d3b (decide (b7D = 9)) b0Q b3m H K) ∧
 (¬ (b7D = 9) →
 C8 d3b (decide (b7D = 10)) b0Q b3m H K)))))
def L5 (e4b : Int) (c9u : Int) (d0D : Bool) (S5 : a8) (a4o : d7) (H : Hp) (K : d7 → Hp → Prop) : Prop :=
 (d0D = true →
 I5 e4b S5 a4o H K) ∧
 (d0D = false →
 (c9u = 4 →
 P7 e4b c9u (decide (c9u = 4)) S5 a4o H K) ∧
 (¬ (c9u = 4) →
 P7 e4b c9u (decide (c9u = 5)) S5 a4o H K))
def a2j (x0 : d7) (x1 : a8) (H : Hp) (K : d7 → Hp → Prop) : Prop :=
 (x1.b6 = 1 →
 L5 0 x1.b6 (decide (x1.b6 = 1)) x1 x0 H K) ∧
 (¬ (x1.b6 = 1) →
 (x1.b6 = 2 →
 L5 0 x1.b6 (decide (x1.b6 = 2)) x1 x0 H K) ∧
 (¬ (x1.b6 = 2) →
 L5 0 x1.b6 (decide (x1.b6 = 3)) x1 x0 H K))
theorem b6f (x0 : d7) (x1 : a8) (g0 : Nat) {K : d7 → Hp → Prop} (I : Inv w0 ps0 H0 H [bx g0 111 (l8 x0)] w) (hR : ∀ (y0 : d7) (H' : Hp) (w' : World) (_ : Inv w0 ps0 H0 H' [bx g0 111 (l8 y0)] w') (_ : K y0 H'), R (Value.tuple #[]) w') (h : a2j x0 x1 H K) : F88 (Value.pointer (some ⟨g0, 0, none⟩)) (Value.agg (b7 x1).toArray) w R E := by
 unfold a2j at h
 unfold F88
 refine J5 I (cs := (b7 x1)) rfl fun g_2 w_3 I_4 k_5 => ?_
 have hj1 : ∀ (w7 : Int) (R1 : d7) (H : Hp) (w : World) (_ : Inv w0 ps0 H0 H [bx g_2 53 (b7 x1), bx g0 111 (l8 R1)] w) (_ : I5 w7 x1 R1 H K), e3x (Value.pointer (some ⟨g0, 0, none⟩)) (Value.pointer (some ⟨g_2, 0, none⟩)) (vi w7) w R E := by
  intro w7 R1 H w I h
  unfold e3x
  intro _
  unfold I5 at h
  refine a7 b3e ?_
  refine f7 (ld1 Tryz.isAgg9 (I.at1 (o := 2) (vs := [(Value.string x1.g7)]) (nb rfl) rfl)) ?_
  refine a7 F7 ?_
  refine f7 (ld1 Tryz.isAgg3 (I.at1 (o := 0) (vs := [(vi x1.b6)]) (nb rfl) rfl)) ?_
  refine a7 (i8 _ _ _ _ _ _) ?_
  refine a7 (Pu.g fun hb => by have b9 := hb; exact F7) ?_
  refine f7 (Ld.g fun hb => by have b9 := hb; simp only [i7 b9]; exact (ld1 Tryz.isAgg3 (I.at1 (o := 0) (vs := [(vi x1.b6)]) (nb rfl) rfl))) ?_
  refine a7 (Pu.g fun hb => by have b9 := hb; simp only [i7 b9]; exact (i8 _ _ _ _ _ _)) ?_
  refine a7 (J4 _ _) ?_
  refine g9 (cap := []) (fun args w => Tryz.call48 args w) ?_
  refine l7 (Fi := [bx g0 111 (l8 R1)]) (Fr := [bx g_2 53 (b7 x1)]) (I.bring 1) (h g0) (fun b7c H_6 b5P w_7 I_8 b7d k_9 a6w => ?_) (fun _ _ _ _ _ q => q.elim)
  obtain ⟨U6, rfl, rfl, h⟩ := a6w
  refine a7 (A7 _) ?_
  refine a7 L6 ?_
  refine f7 (ld1 Tryz.isAgg4 (I_8.at1 (o := 0) (vs := [(vB U6.fok)]) (nb rfl) rfl)) ?_
  refine a7 (Pu.g fun hb => by have b9 := hb; exact v8) ?_
  refine f7 (Ld.g fun hb => by have b9 := hb; simp only [i7 b9]; exact (ld1 Tryz.isAgg51 ((I_8.bring 1).at1 (o := 3) (vs := [(vs x1.i4)]) (nb rfl) rfl))) ?_
  refine a7 (Pu.g fun hb => by have b9 := hb; simp only [i7 b9]; exact (J3 _ _ _)) ?_
  simp only [u5]
  refine a7 (Pu.g fun hb => by have b9 := hb; simp only [i7 b9]; exact (i8 _ _ _ _ _ _)) ?_
  refine a7 (s7 _ _) ?_
  refine a7 (Pu.g fun hb => by have b9 := hb; exact a3E) ?_
  refine f7 (Ld.g fun hb => by have b9 := hb; simp only [i7 b9]; exact (ld1 Tryz.isAgg2 ((I_8.bring 1).at1 (o := 1) (vs := [(vi x1.m8)]) (nb rfl) rfl))) ?_
  refine a7 (Pu.g fun hb => by have b9 := hb; simp only [i7 b9]; exact (i8 _ _ _ _ _ _)) ?_
  simp only [u5, b1b, f5q]
  refine a7 (Pu.e (a7n _ _ _) (Pu.g fun hb => by obtain ⟨b9, a3x⟩ := a9r hb; exact F7)) ?_
  refine f7 (Ld.e (a7n _ _ _) (Ld.g fun hb => by obtain ⟨b9, a3x⟩ := a9r hb; simp only [i7 hb]; exact (ld1 Tryz.isAgg3 ((I_8.bring 1).at1 (o := 0) (vs := [(vi x1.b6)]) (nb rfl) rfl)))) ?_
  refine a7 (Pu.e (a7n _ _ _) (Pu.g fun hb => by obtain ⟨b9, a3x⟩ := a9r hb; simp only [i7 hb]; exact (i8 _ _ _ _ _ _))) ?_
  simp only [b1b]
  refine a7 (Pu.e (d6i _ _ _) (Pu.g fun hb => by obtain ⟨d2Z, g1M⟩ := e7T hb; obtain ⟨b9, a3x⟩ := a9r d2Z; exact a3E)) ?_
  refine f7 (Ld.e (d6i _ _ _) (Ld.g fun hb => by obtain ⟨d2Z, g1M⟩ := e7T hb; obtain ⟨b9, a3x⟩ := a9r d2Z; simp only [i7 hb]; exact (ld1 Tryz.isAgg2 ((I_8.bring 1).at1 (o := 1) (vs := [(vi x1.m8)]) (nb rfl) rfl)))) ?_
  refine a7 (Pu.e (d6i _ _ _) (Pu.g fun hb => by obtain ⟨d2Z, g1M⟩ := e7T hb; obtain ⟨b9, a3x⟩ := a9r d2Z; simp only [i7 hb]; exact (a4M _ _ _ _ _ _))) ?_
  refine a7 (Pu.e (a7n _ _ _) (Pu.g fun hb => by obtain ⟨b9, a3x⟩ := a9r hb; simp only [i7 hb, h5A hb]; exact (s7 _ _))) ?_
  refine a7 (Pu.g fun hb => by have b9 := hb; simp only [i7 b9, c8a b9]; exact (J4 _ _)) ?_
  refine a7 (s7 _ _) ?_
  refine a7 (A7 _) ?_
  refine a7 L6 ?_
  refine m6 I_8 Tryz.sizeOf4 (vs := [(vB ((U6.fok && (decide ((x1.i4.n : Int) = w7))) && ((decide (x1.m8 = 0)) || ((decide (x1.b6 = 1)) && (decide (0 < x1.m8))))))]) (cs' := [(vB ((U6.fok && (decide ((x1.i4.n : Int) = w7))) && ((decide (x1.m8 = 0)) || ((decide (x1.b6 = 1)) && (decide (0 < x1.m8)))))), (vB U6.fnames)]) rfl rfl (nb rfl) rfl rfl fun c0s g1P k3c => ?_
  obtain ⟨g1Q, e4c, k3d, k3e⟩ := h
  refine B5 (J := fun n l w => ∃ (s : Int × d7) (H : Hp) , n = e4c s ∧ l = (match s with | (G6, a0y) => [(vi G6)]) ∧ (match s with | (G6, a0y) => Inv w0 ps0 H0 H [bx g0 111 (l8 a0y), bx g_2 53 (b7 x1)] w) ∧ g1Q s H) ⟨_, (0, (d7.mk ((U6.fok && (decide ((x1.i4.n : Int) = w7))) && ((decide (x1.m8 = 0)) || ((decide (x1.b6 = 1)) && (decide (0 < x1.m8))))) U6.fnames)), H_6, rfl, rfl, ((g1P.bring 1).bring 1), k3d⟩ ?_
  rintro l1l τ_65 w next2 ⟨⟨G6, a0y⟩, H, rfl, f0E, I, k3f⟩ hn2
  dsimp only at f0E I
  simp only [List.map_cons, List.map_nil, List.cons.injEq, and_true] at f0E
  have e5 := f0E
  simp only [e5]
  obtain ⟨n2, hm2, h⟩ : ∃ n2 : (Int × d7) → Hp → Prop, (∀ s' H', n2 s' H' → g1Q s' H' ∧ e4c s' < e4c (G6, a0y)) ∧ a0L x1 G6 a0y H n2 K := ⟨_, fun _ _ h => h, k3e (G6, a0y) H (fun s' H' => g1Q s' H' ∧ e4c s' < e4c (G6, a0y)) k3f (fun _ _ a b => ⟨a, b⟩)⟩
  unfold f7p
  unfold a0L at h
  refine a7 v8 ?_
  refine f7 (ld1 Tryz.isAgg51 ((I.bring 1).at1 (o := 3) (vs := [(vs x1.i4)]) (nb rfl) rfl)) ?_
  refine a7 (J3 _ _ _) ?_
  refine a7 (w9 _ _ _ _ _ _) ?_
  simp only [u5]
  refine a7 (Pu.g fun hb => by have b9 := hb; simp only [i7 b9]; exact (A7 _)) ?_
  refine a7 (Pu.g fun hb => by have b9 := hb; simp only [i7 b9]; exact L6) ?_
  refine f7 (Ld.g fun hb => by have b9 := hb; simp only [i7 b9]; exact (ld1 Tryz.isAgg4 (I.at1 (o := 0) (vs := [(vB a0y.fok)]) (nb rfl) rfl))) ?_
  refine a7 (s7 _ _) ?_
  refine o0 (fun c1D => ?_) (fun c1D => ?_)
  ·replace h := h.1 c1D
   refine a7 v8 ?_
   refine f7 (ld1 Tryz.isAgg51 ((I.bring 1).at1 (o := 3) (vs := [(vs x1.i4)]) (nb rfl) rfl)) ?_
   obtain ⟨c6e, k3g, f0C, e2I, h⟩ := h
   obtain ⟨l1m, l1n, f9Y, e2I⟩ := e2I
   refine a7 (A0 f9Y _ _ _ _ c6e k3g) ?_
   refine f7 (ldA (vs := (b7 f0C)) Tryz.isAgg53 Tryz.sizeOf53 rfl (I.atH e2I)) ?_
   refine g9 (cap := []) (fun args w => Tryz.call88 args w) ?_
   refine l7 (Fi := [bx g0 111 (l8 a0y)]) (Fr := [bx g_2 53 (b7 x1)]) I (h g0) (fun l1o g1N l1p c8m c0J l1q e4d k3h => ?_) (fun _ _ _ _ _ q => q.elim)
   obtain ⟨f0D, rfl, rfl, h⟩ := k3h
   refine a7 (y6 _ _ _ _ _ _) ?_
   exact hn2 _ _ _ (hm2 _ _ h).2 ⟨((IntKind.wrap .i64 (G6 + 1)), f0D), g1N, rfl, rfl, ((c0J.bring 1).bring 1), (hm2 _ _ h).1⟩
  ·replace h := h.2 c1D
   exact hR a0y H _ (I.bring 1).drop h
 refine t6 fun j1 hx1 => ?_
 refine a7 F7 ?_
 refine f7 (ld1 Tryz.isAgg3 (I_4.at1 (o := 0) (vs := [(vi x1.b6)]) (nb rfl) rfl)) ?_
 have hj3 : ∀ (d0D : Bool) (H : Hp) (w : World) (_ : Inv w0 ps0 H0 H [bx g_2 53 (b7 x1), bx g0 111 (l8 x0)] w) (_ : L5 0 x1.b6 d0D x1 x0 H K), e3F (Value.pointer (some ⟨g0, 0, none⟩)) (Value.pointer (some ⟨g_2, 0, none⟩)) (vi 0) (vi x1.b6) (vB d0D) w j1 R E := by
  intro d0D H w I h
  unfold e3F
  intro _
  unfold L5 at h
  refine o0 (fun d2Q => ?_) (fun d2Q => ?_)
  ·replace h := h.1 d2Q
   exact hx1 _ _ (hj1 0 x0 H _ ((I.bring 1).bring 1) h)
  ·replace h := h.2 d2Q
   have hj4 : ∀ (d0C : Bool) (H : Hp) (w : World) (_ : Inv w0 ps0 H0 H [bx g_2 53 (b7 x1), bx g0 111 (l8 x0)] w) (_ : P7 0 x1.b6 d0C x1 x0 H K), e3E (Value.pointer (some ⟨g0, 0, none⟩)) (Value.pointer (some ⟨g_2, 0, none⟩)) (vi 0) (vi x1.b6) (vB d0C) w j1 R E := by
    intro d0C H w I h
    unfold e3E
    intro _
    unfold P7 at h
    refine o0 (fun c0L => ?_) (fun c0L => ?_)
    ·replace h := h.1 c0L
     exact hx1 _ _ (hj1 1 x0 H _ ((I.bring 1).bring 1) h)
    ·replace h := h.2 c0L
     have hj5 : ∀ (d0B : Bool) (H : Hp) (w : World) (_ : Inv w0 ps0 H0 H [bx g_2 53 (b7 x1), bx g0 111 (l8 x0)] w) (_ : C8 0 d0B x1 x0 H K), e3D (Value.pointer (some ⟨g0, 0, none⟩)) (Value.pointer (some ⟨g_2, 0, none⟩)) (vi 0) (vB d0B) w j1 R E := by
      intro d0B H w I h
      unfold e3D
      intro _
      unfold C8 at h
      refine o0 (fun c0Z => ?_) (fun c0Z => ?_)
      ·replace h := h.1 c0Z
       exact hx1 _ _ (hj1 2 x0 H _ ((I.bring 1).bring 1) h)
      ·replace h := h.2 c0Z
       refine a7 (A7 _) ?_
       refine a7 L6 ?_
       refine m6 (I.bring 1) Tryz.sizeOf4 (vs := [(vB false)]) (cs' := [(vB false), (vB x0.fnames)]) rfl rfl (nb rfl) rfl rfl fun T2 b7b e1S => ?_
       exact hx1 _ _ (hj1 0 (d7.mk false x0.fnames) H _ (b7b.bring 1) h)
     refine t6 fun j5 hx5 => ?_
     refine a7 (i8 _ _ _ _ _ _) ?_
     refine k7 (fun c0Y => ?_) (fun c0Y => ?_)
     ·replace h := h.1 c0Y
      exact hx5 _ _ (hj5 (decide (x1.b6 = 6)) H _ ((I.bring 1).bring 1) h)
     ·replace h := h.2 c0Y
      refine a7 (i8 _ _ _ _ _ _) ?_
      refine k7 (fun b4F => ?_) (fun b4F => ?_)
      ·replace h := h.1 b4F
       exact hx5 _ _ (hj5 (decide (x1.b6 = 7)) H _ ((I.bring 1).bring 1) h)
      ·replace h := h.2 b4F
       refine a7 (i8 _ _ _ _ _ _) ?_
       refine k7 (fun c1j => ?_) (fun c1j => ?_)
       ·replace h := h.1 c1j
        exact hx5 _ _ (hj5 (decide (x1.b6 = 8)) H _ ((I.bring 1).bring 1) h)
       ·replace h := h.2 c1j
        refine a7 (i8 _ _ _ _ _ _) ?_
        refine k7 (fun a8J => ?_) (fun a8J => ?_)
        ·replace h := h.1 a8J
         exact hx5 _ _ (hj5 (decide (x1.b6 = 9)) H _ ((I.bring 1).bring 1) h)
        ·replace h := h.2 a8J
         refine a7 (i8 _ _ _ _ _ _) ?_
         exact hx5 _ _ (hj5 (decide (x1.b6 = 10)) H _ ((I.bring 1).bring 1) h)
   refine t6 fun j4 hx4 => ?_
   refine a7 (i8 _ _ _ _ _ _) ?_
   refine k7 (fun d2R => ?_) (fun d2R => ?_)
   ·replace h := h.1 d2R
    exact hx4 _ _ (hj4 (decide (x1.b6 = 4)) H _ ((I.bring 1).bring 1) h)
   ·replace h := h.2 d2R
    refine a7 (i8 _ _ _ _ _ _) ?_
    exact hx4 _ _ (hj4 (decide (x1.b6 = 5)) H _ ((I.bring 1).bring 1) h)
 refine t6 fun j3 hx3 => ?_
 refine a7 (i8 _ _ _ _ _ _) ?_
 refine k7 (fun d2O => ?_) (fun d2O => ?_)
 ·replace h := h.1 d2O
  exact hx3 _ _ (hj3 (decide (x1.b6 = 1)) H _ ((I_4.bring 1).bring 1) h)
 ·replace h := h.2 d2O
  refine a7 (i8 _ _ _ _ _ _) ?_
  refine k7 (fun d2P => ?_) (fun d2P => ?_)
  ·replace h := h.1 d2P
   exact hx3 _ _ (hj3 (decide (x1.b6 = 2)) H _ ((I_4.bring 1).bring 1) h)
  ·replace h := h.2 d2P
   refine a7 (i8 _ _ _ _ _ _) ?_
   exact hx3 _ _ (hj3 (decide (x1.b6 = 3)) H _ ((I_4.bring 1).bring 1) h)
theorem b6I (x0 : d7) (x1 : a8) {H : Hp} {K : d7 → Hp → Prop} (h : a2j x0 x1 H K) : Y0 x0 x1 H K := by
 intro g0 w I
 refine i6d ?_
 refine b6f x0 x1 g0 I (fun y0 H' w' I' hk => ⟨H', _, I', y0, rfl, rfl, hk⟩) h
def a0M (Q8 : b8) (b4N : Int) (a0C : d7) (H : Hp) (n4 : (Int × d7) → Hp → Prop) (K : d7 → Hp → Prop) : Prop :=
 (((decide (b4N < (Q8.p8.n : Int))) && a0C.fok) = true →
 (0 : Int) ≤ b4N ∧ (b4N : Int) < Q8.p8.n ∧ ∃ f0F : b8, EltH H Q8.p8 b4N 4 (d6 f0F) ∧
 a1U a0C f0F H (fun (O6 : d7) (c5Z : Hp) =>
 n4 ((IntKind.wrap .i64 (b4N + 1)), O6) c5Z)) ∧
 (((decide (b4N < (Q8.p8.n : Int))) && a0C.fok) = false →
 K a0C H)
def a0N (a4o : d7) (S5 : b8) (H : Hp) (K : d7 → Hp → Prop) : Prop :=
 TL ((0, a4o) : Int × d7) H fun (s : Int × d7) H n4 => a0M S5 s.1 s.2 H n4 K
def a0O (a7P : b8) (b4O : Int) (N5 : d7) (H : Hp) (n5 : (Int × d7) → Hp → Prop) (K : d7 → Hp → Prop) : Prop :=
 (((decide (b4O < (a7P.i6.n : Int))) && N5.fok) = true →
 (0 : Int) ≤ b4O ∧ (b4O : Int) < a7P.i6.n ∧ ∃ f0G : a8, EltH H a7P.i6 b4O 4 (b7 f0G) ∧
 Y0 N5 f0G H (fun (f0H : d7) (g1R : Hp) =>
 n5 ((IntKind.wrap .i64 (b4O + 1)), f0H) g1R)) ∧
 (((decide (b4O < (a7P.i6.n : Int))) && N5.fok) = false →
 a0N N5 a7P H K)
def P8 (c6w : Int) (k3i : Int) (c9v : Bool) (N9 : b8) (b0s : d7) (H : Hp) (K : d7 → Hp → Prop) : Prop :=
 TL ((0, (d7.mk (((b0s.fok && c9v) && (decide ((N9.i6.n : Int) = c6w))) && (decide ((N9.p8.n : Int) = k3i))) b0s.fnames)) : Int × d7) H fun (s : Int × d7) H n5 => a0O N9 s.1 s.2 H n5 K
def C9 (w7 : Int) (a4C : Int) (r7 : b8) (R1 : d7) (H : Hp) (K : d7 → Hp → Prop) : Prop :=
 (r7.b6 = 3 →
 P8 w7 a4C ((decide (1 ≤ r7.fOp)) && (decide (r7.fOp ≤ 6))) r7 R1 H K) ∧
 (¬ (r7.b6 = 3) →
 P8 w7 a4C (decide (r7.fOp = 0)) r7 R1 H K)
def P9 (d7u : Int) (k3j : Int) (d0E : Bool) (f7q : b8) (g4V : d7) (H : Hp) (K : d7 → Hp → Prop) : Prop :=
 (d0E = true →
 C9 d7u 2 f7q g4V H K) ∧
 (d0E = false →
 C9 d7u k3j f7q (d7.mk false g4V.fnames) H K)
def Q0 (d3c : Int) (f0I : Int) (c2Y : Int) (d0F : Bool) (c9w : b8) (d4H : d7) (H : Hp) (K : d7 → Hp → Prop) : Prop :=
 (d0F = true →
 C9 d3c f0I c9w d4H H K) ∧
 (d0F = false →
 (c2Y = 3 →
 C9 2 f0I c9w d4H H K) ∧
 (¬ (c2Y = 3) →
 (c2Y = 4 →
 C9 d3c 1 c9w d4H H K) ∧
 (¬ (c2Y = 4) →
 (c2Y = 5 →
 P9 d3c f0I (decide (c2Y = 5)) c9w d4H H K) ∧
 (¬ (c2Y = 5) →
 P9 d3c f0I (decide (c2Y = 6)) c9w d4H H K))))
def a2k (x0 : d7) (x1 : b8) (H : Hp) (K : d7 → Hp → Prop) : Prop :=
 (x1.b6 = 1 →
 Q0 0 0 x1.b6 (decide (x1.b6 = 1)) x1 x0 H K) ∧
 (¬ (x1.b6 = 1) →
 Q0 0 0 x1.b6 (decide (x1.b6 = 2)) x1 x0 H K)
theorem b6g (x0 : d7) (x1 : b8) (g0 : Nat) {K : d7 → Hp → Prop} (I : Inv w0 ps0 H0 H [bx g0 111 (l8 x0)] w) (hR : ∀ (y0 : d7) (H' : Hp) (w' : World) (_ : Inv w0 ps0 H0 H' [bx g0 111 (l8 y0)] w') (_ : K y0 H'), R (Value.tuple #[]) w') (h : a2k x0 x1 H K) : F87 (Value.pointer (some ⟨g0, 0, none⟩)) (Value.agg (d6 x1).toArray) w R E := by
 unfold a2k at h
 unfold F87
 refine J5 I (cs := (d6 x1)) rfl fun g_2 w_3 I_4 k_5 => ?_
 have hj1 : ∀ (w7 : Int) (a4C : Int) (R1 : d7) (H : Hp) (w : World) (_ : Inv w0 ps0 H0 H [bx g_2 59 (d6 x1), bx g0 111 (l8 R1)] w) (_ : C9 w7 a4C x1 R1 H K), e3p (Value.pointer (some ⟨g0, 0, none⟩)) (Value.pointer (some ⟨g_2, 0, none⟩)) (vi w7) (vi a4C) w R E := by
  intro w7 a4C R1 H w I h
  unfold e3p
  intro _
  unfold C9 at h
  refine a7 a4N ?_
  refine f7 (ld1 Tryz.isAgg3 (I.at1 (o := 1) (vs := [(vi x1.fOp)]) (nb rfl) rfl)) ?_
  refine a7 (i8 _ _ _ _ _ _) ?_
  have hj2 : ∀ (c9v : Bool) (H : Hp) (w : World) (_ : Inv w0 ps0 H0 H [bx g_2 59 (d6 x1), bx g0 111 (l8 R1)] w) (_ : P8 w7 a4C c9v x1 R1 H K), e3n (Value.pointer (some ⟨g0, 0, none⟩)) (Value.pointer (some ⟨g_2, 0, none⟩)) (vi w7) (vi a4C) (vB c9v) w R E := by
   intro c9v H w I h
   unfold e3n
   intro _
   unfold P8 at h
   refine a7 (A7 _) ?_
   refine a7 L6 ?_
   refine f7 (ld1 Tryz.isAgg4 ((I.bring 1).at1 (o := 0) (vs := [(vB R1.fok)]) (nb rfl) rfl)) ?_
   simp only [u5]
   refine a7 (s7 _ _) ?_
   refine a7 (Pu.g fun hb => by have b9 := hb; exact M4) ?_
   refine f7 (Ld.g fun hb => by have b9 := hb; simp only [i7 b9]; exact (ld1 Tryz.isAgg51 (I.at1 (o := 2) (vs := [(vs x1.i6)]) (nb rfl) rfl))) ?_
   refine a7 (Pu.g fun hb => by have b9 := hb; simp only [i7 b9]; exact (J3 _ _ _)) ?_
   simp only [u5]
   refine a7 (Pu.g fun hb => by have b9 := hb; simp only [i7 b9]; exact (i8 _ _ _ _ _ _)) ?_
   refine a7 (s7 _ _) ?_
   refine a7 (Pu.g fun hb => by have b9 := hb; exact E5) ?_
   refine f7 (Ld.g fun hb => by have b9 := hb; simp only [i7 b9]; exact (ld1 Tryz.isAgg57 (I.at1 (o := 3) (vs := [(vs x1.p8)]) (nb rfl) rfl))) ?_
   refine a7 (Pu.g fun hb => by have b9 := hb; simp only [i7 b9]; exact (U9 _ _ _)) ?_
   simp only [u5]
   refine a7 (Pu.g fun hb => by have b9 := hb; simp only [i7 b9]; exact (i8 _ _ _ _ _ _)) ?_
   refine a7 (s7 _ _) ?_
   refine a7 (A7 _) ?_
   refine a7 L6 ?_
   refine m6 (I.bring 1) Tryz.sizeOf4 (vs := [(vB (((R1.fok && c9v) && (decide ((x1.i6.n : Int) = w7))) && (decide ((x1.p8.n : Int) = a4C))))]) (cs' := [(vB (((R1.fok && c9v) && (decide ((x1.i6.n : Int) = w7))) && (decide ((x1.p8.n : Int) = a4C)))), (vB R1.fnames)]) rfl rfl (nb rfl) rfl rfl fun w_6 I_7 k_8 => ?_
   have hj3 : ∀ (a4o : d7) (H : Hp) (w : World) (_ : Inv w0 ps0 H0 H [bx g0 111 (l8 a4o), bx g_2 59 (d6 x1)] w) (_ : a0N a4o x1 H K), e3m (Value.pointer (some ⟨g0, 0, none⟩)) (Value.pointer (some ⟨g_2, 0, none⟩)) w R E := by
    intro a4o H w I h
    unfold e3m
    intro _
    unfold a0N at h
    obtain ⟨g1S, e4e, k3k, b7m⟩ := h
    refine B5 (J := fun n l w => ∃ (s : Int × d7) (H : Hp) , n = e4e s ∧ l = (match s with | (b4N, a0C) => [(vi b4N)]) ∧ (match s with | (b4N, a0C) => Inv w0 ps0 H0 H [bx g0 111 (l8 a0C), bx g_2 59 (d6 x1)] w) ∧ g1S s H) ⟨_, (0, a4o), H, rfl, rfl, ((I.bring 1).bring 1), k3k⟩ ?_
    rintro l1r τ_72 w next4 ⟨⟨b4N, a0C⟩, H, rfl, g1T, I, k3l⟩ hn4
    dsimp only at g1T I
    simp only [List.map_cons, List.map_nil, List.cons.injEq, and_true] at g1T
    have e8 := g1T
    simp only [e8]
    obtain ⟨n4, hm4, h⟩ : ∃ n4 : (Int × d7) → Hp → Prop, (∀ s' H', n4 s' H' → g1S s' H' ∧ e4e s' < e4e (b4N, a0C)) ∧ a0M x1 b4N a0C H n4 K := ⟨_, fun _ _ h => h, b7m (b4N, a0C) H (fun s' H' => g1S s' H' ∧ e4e s' < e4e (b4N, a0C)) k3l (fun _ _ a b => ⟨a, b⟩)⟩
    unfold f7m
    unfold a0M at h
    refine a7 E5 ?_
    refine f7 (ld1 Tryz.isAgg57 ((I.bring 1).at1 (o := 3) (vs := [(vs x1.p8)]) (nb rfl) rfl)) ?_
    refine a7 (U9 _ _ _) ?_
    refine a7 (w9 _ _ _ _ _ _) ?_
    simp only [u5]
    refine a7 (Pu.g fun hb => by have b9 := hb; simp only [i7 b9]; exact (A7 _)) ?_
    refine a7 (Pu.g fun hb => by have b9 := hb; simp only [i7 b9]; exact L6) ?_
    refine f7 (Ld.g fun hb => by have b9 := hb; simp only [i7 b9]; exact (ld1 Tryz.isAgg4 (I.at1 (o := 0) (vs := [(vB a0C.fok)]) (nb rfl) rfl))) ?_
    refine a7 (s7 _ _) ?_
    refine o0 (fun d2K => ?_) (fun d2K => ?_)
    ·replace h := h.1 d2K
     refine a7 E5 ?_
     refine f7 (ld1 Tryz.isAgg57 ((I.bring 1).at1 (o := 3) (vs := [(vs x1.p8)]) (nb rfl) rfl)) ?_
     obtain ⟨c3K, c3J, f0F, c0K, h⟩ := h
     obtain ⟨l1s, l1t, c9b, c0K⟩ := c0K
     refine a7 (S7 c9b _ _ _ _ c3K c3J) ?_
     refine f7 (ldA (vs := (d6 f0F)) Tryz.isAgg59 Tryz.sizeOf59 rfl (I.atH c0K)) ?_
     refine g9 (cap := []) (fun args w => Tryz.call87 args w) ?_
     refine l7 (Fi := [bx g0 111 (l8 a0C)]) (Fr := [bx g_2 59 (d6 x1)]) I (h g0) (fun k1A c5Z k1B L4 d2o k1C k1D f9B => ?_) (fun _ _ _ _ _ q => q.elim)
     obtain ⟨O6, rfl, rfl, h⟩ := f9B
     refine a7 (y6 _ _ _ _ _ _) ?_
     exact hn4 _ _ _ (hm4 _ _ h).2 ⟨((IntKind.wrap .i64 (b4N + 1)), O6), c5Z, rfl, rfl, ((d2o.bring 1).bring 1), (hm4 _ _ h).1⟩
    ·replace h := h.2 d2K
     exact hR a0C H _ (I.bring 1).drop h
   refine t6 fun j3 hx3 => ?_
   obtain ⟨f0J, d4I, j5N, j5O⟩ := h
   refine B5 (J := fun n l w => ∃ (s : Int × d7) (H : Hp) , n = d4I s ∧ l = (match s with | (b4O, N5) => [(vi b4O)]) ∧ (match s with | (b4O, N5) => Inv w0 ps0 H0 H [bx g0 111 (l8 N5), bx g_2 59 (d6 x1)] w) ∧ f0J s H) ⟨_, (0, (d7.mk (((R1.fok && c9v) && (decide ((x1.i6.n : Int) = w7))) && (decide ((x1.p8.n : Int) = a4C))) R1.fnames)), H, rfl, rfl, ((I_7.bring 1).bring 1), j5N⟩ ?_
   rintro k5p τ_106 w next5 ⟨⟨b4O, N5⟩, H, rfl, f0K, I, j5P⟩ hn5
   dsimp only at f0K I
   simp only [List.map_cons, List.map_nil, List.cons.injEq, and_true] at f0K
   have e7 := f0K
   simp only [e7]
   obtain ⟨n5, hm5, h⟩ : ∃ n5 : (Int × d7) → Hp → Prop, (∀ s' H', n5 s' H' → f0J s' H' ∧ d4I s' < d4I (b4O, N5)) ∧ a0O x1 b4O N5 H n5 K := ⟨_, fun _ _ h => h, j5O (b4O, N5) H (fun s' H' => f0J s' H' ∧ d4I s' < d4I (b4O, N5)) j5P (fun _ _ a b => ⟨a, b⟩)⟩
   unfold f7n
   unfold a0O at h
   refine a7 M4 ?_
   refine f7 (ld1 Tryz.isAgg51 ((I.bring 1).at1 (o := 2) (vs := [(vs x1.i6)]) (nb rfl) rfl)) ?_
   refine a7 (J3 _ _ _) ?_
   refine a7 (w9 _ _ _ _ _ _) ?_
   simp only [u5]
   refine a7 (Pu.g fun hb => by have b9 := hb; simp only [i7 b9]; exact (A7 _)) ?_
   refine a7 (Pu.g fun hb => by have b9 := hb; simp only [i7 b9]; exact L6) ?_
   refine f7 (Ld.g fun hb => by have b9 := hb; simp only [i7 b9]; exact (ld1 Tryz.isAgg4 (I.at1 (o := 0) (vs := [(vB N5.fok)]) (nb rfl) rfl))) ?_
   refine a7 (s7 _ _) ?_
   refine o0 (fun f0L => ?_) (fun f0L => ?_)
   ·replace h := h.1 f0L
    refine a7 M4 ?_
    refine f7 (ld1 Tryz.isAgg51 ((I.bring 1).at1 (o := 2) (vs := [(vs x1.i6)]) (nb rfl) rfl)) ?_
    obtain ⟨c6L, e4f, f0G, e1P, h⟩ := h
    obtain ⟨l1u, l1v, c5S, e1P⟩ := e1P
    refine a7 (A0 c5S _ _ _ _ c6L e4f) ?_
    refine f7 (ldA (vs := (b7 f0G)) Tryz.isAgg53 Tryz.sizeOf53 rfl (I.atH e1P)) ?_
    refine g9 (cap := []) (fun args w => Tryz.call88 args w) ?_
    refine l7 (Fi := [bx g0 111 (l8 N5)]) (Fr := [bx g_2 59 (d6 x1)]) I (h g0) (fun l1w g1R l1x a2K k3m l1y l1z k3n => ?_) (fun _ _ _ _ _ q => q.elim)
    obtain ⟨f0H, rfl, rfl, h⟩ := k3n
    refine a7 (y6 _ _ _ _ _ _) ?_
    exact hn5 _ _ _ (hm5 _ _ h).2 ⟨((IntKind.wrap .i64 (b4O + 1)), f0H), g1R, rfl, rfl, ((k3m.bring 1).bring 1), (hm5 _ _ h).1⟩
   ·replace h := h.2 f0L
    exact hx3 _ _ (hj3 N5 H _ ((I.bring 1).bring 1) h)
  refine t6 fun j2 hx2 => ?_
  refine a7 Q2 ?_
  refine f7 (ld1 Tryz.isAgg3 (I.at1 (o := 0) (vs := [(vi x1.b6)]) (nb rfl) rfl)) ?_
  refine a7 (i8 _ _ _ _ _ _) ?_
  refine k7 (fun f0M => ?_) (fun f0M => ?_)
  ·replace h := h.1 f0M
   refine a7 a4N ?_
   refine f7 (ld1 Tryz.isAgg3 (I.at1 (o := 1) (vs := [(vi x1.fOp)]) (nb rfl) rfl)) ?_
   refine a7 (a7M _ _ _ _ _ _) ?_
   refine a7 (Pu.g fun hb => by have b9 := hb; exact a4N) ?_
   refine f7 (Ld.g fun hb => by have b9 := hb; simp only [i7 b9]; exact (ld1 Tryz.isAgg3 (I.at1 (o := 1) (vs := [(vi x1.fOp)]) (nb rfl) rfl))) ?_
   refine a7 (Pu.g fun hb => by have b9 := hb; simp only [i7 b9]; exact (b3S _ _ _ _ _ _)) ?_
   refine a7 (s7 _ _) ?_
   exact hx2 _ _ (hj2 ((decide (1 ≤ x1.fOp)) && (decide (x1.fOp ≤ 6))) H _ ((I.bring 1).bring 1) h)
  ·replace h := h.2 f0M
   exact hx2 _ _ (hj2 (decide (x1.fOp = 0)) H _ ((I.bring 1).bring 1) h)
 refine t6 fun j1 hx1 => ?_
 refine a7 Q2 ?_
 refine f7 (ld1 Tryz.isAgg3 (I_4.at1 (o := 0) (vs := [(vi x1.b6)]) (nb rfl) rfl)) ?_
 have hj6 : ∀ (d0F : Bool) (H : Hp) (w : World) (_ : Inv w0 ps0 H0 H [bx g_2 59 (d6 x1), bx g0 111 (l8 x0)] w) (_ : Q0 0 0 x1.b6 d0F x1 x0 H K), e3r (Value.pointer (some ⟨g0, 0, none⟩)) (Value.pointer (some ⟨g_2, 0, none⟩)) (vi 0) (vi 0) (vi x1.b6) (vB d0F) w j1 R E := by
  intro d0F H w I h
  unfold e3r
  intro _
  unfold Q0 at h
  refine o0 (fun c6M => ?_) (fun c6M => ?_)
  ·replace h := h.1 c6M
   exact hx1 _ _ (hj1 0 0 x0 H _ ((I.bring 1).bring 1) h)
  ·replace h := h.2 c6M
   refine a7 (i8 _ _ _ _ _ _) ?_
   refine k7 (fun f0N => ?_) (fun f0N => ?_)
   ·replace h := h.1 f0N
    exact hx1 _ _ (hj1 2 0 x0 H _ ((I.bring 1).bring 1) h)
   ·replace h := h.2 f0N
    refine a7 (i8 _ _ _ _ _ _) ?_
    refine k7 (fun c6f => ?_) (fun c6f => ?_)
    ·replace h := h.1 c6f
     exact hx1 _ _ (hj1 0 1 x0 H _ ((I.bring 1).bring 1) h)
    ·replace h := h.2 c6f
     have hj7 : ∀ (d0E : Bool) (H : Hp) (w : World) (_ : Inv w0 ps0 H0 H [bx g_2 59 (d6 x1), bx g0 111 (l8 x0)] w) (_ : P9 0 0 d0E x1 x0 H K), e3q (Value.pointer (some ⟨g0, 0, none⟩)) (Value.pointer (some ⟨g_2, 0, none⟩)) (vi 0) (vi 0) (vB d0E) w j1 R E := by
      intro d0E H w I h
      unfold e3q
      intro _
      unfold P9 at h
      refine o0 (fun c6N => ?_) (fun c6N => ?_)
      ·replace h := h.1 c6N
       exact hx1 _ _ (hj1 0 2 x0 H _ ((I.bring 1).bring 1) h)
      ·replace h := h.2 c6N
       refine a7 (A7 _) ?_
       refine a7 L6 ?_
       refine m6 (I.bring 1) Tryz.sizeOf4 (vs := [(vB false)]) (cs' := [(vB false), (vB x0.fnames)]) rfl rfl (nb rfl) rfl rfl fun a7T d8Q j5Q => ?_
       exact hx1 _ _ (hj1 0 0 (d7.mk false x0.fnames) H _ (d8Q.bring 1) h)
     refine t6 fun j7 hx7 => ?_
     refine a7 (i8 _ _ _ _ _ _) ?_
     refine k7 (fun b6h => ?_) (fun b6h => ?_)
     ·replace h := h.1 b6h
      exact hx7 _ _ (hj7 (decide (x1.b6 = 5)) H _ ((I.bring 1).bring 1) h)
     ·replace h := h.2 b6h
      refine a7 (i8 _ _ _ _ _ _) ?_
      exact hx7 _ _ (hj7 (decide (x1.b6 = 6)) H _ ((I.bring 1).bring 1) h)
 refine t6 fun j6 hx6 => ?_
 refine a7 (i8 _ _ _ _ _ _) ?_
 refine k7 (fun c6O => ?_) (fun c6O => ?_)
 ·replace h := h.1 c6O
  exact hx6 _ _ (hj6 (decide (x1.b6 = 1)) H _ ((I_4.bring 1).bring 1) h)
 ·replace h := h.2 c6O
  refine a7 (i8 _ _ _ _ _ _) ?_
  exact hx6 _ _ (hj6 (decide (x1.b6 = 2)) H _ ((I_4.bring 1).bring 1) h)
theorem b6J (x0 : d7) (x1 : b8) {H : Hp} {K : d7 → Hp → Prop} (h : a2k x0 x1 H K) : a1U x0 x1 H K := by
 intro g0 w I
 refine i5H ?_
 refine b6g x0 x1 g0 I (fun y0 H' w' I' hk => ⟨H', _, I', y0, rfl, rfl, hk⟩) h
def a0P (a7P : d8) (b4P : Int) (N5 : d7) (H : Hp) (n5 : (Int × d7) → Hp → Prop) (K : d7 → Hp → Prop) : Prop :=
 (((decide (b4P < (a7P.t7.n : Int))) && N5.fok) = true →
 (0 : Int) ≤ b4P ∧ (b4P : Int) < a7P.t7.n ∧ ∃ c6P : d8, EltH H a7P.t7 b4P 6 (g8 c6P) ∧
 Y1 N5 c6P H (fun (e4g : d7) (c3S : Hp) =>
 n5 ((IntKind.wrap .i64 (b4P + 1)), e4g) c3S)) ∧
 (((decide (b4P < (a7P.t7.n : Int))) && N5.fok) = false →
 K N5 H)
def a0Q (b3m : d7) (b0Q : d8) (H : Hp) (K : d7 → Hp → Prop) : Prop :=
 TL ((0, b3m) : Int × d7) H fun (s : Int × d7) H n5 => a0P b0Q s.1 s.2 H n5 K
def a0R (a7i : d8) (b4Q : Int) (a0H : d7) (H : Hp) (n6 : (Int × d7) → Hp → Prop) (K : d7 → Hp → Prop) : Prop :=
 (((decide (b4Q < (a7i.v7.n : Int))) && a0H.fok) = true →
 (0 : Int) ≤ b4Q ∧ (b4Q : Int) < a7i.v7.n ∧ ∃ d8R : d8, EltH H a7i.v7 b4Q 6 (g8 d8R) ∧
 Y1 a0H d8R H (fun (e4h : d7) (f0O : Hp) =>
 n6 ((IntKind.wrap .i64 (b4Q + 1)), e4h) f0O)) ∧
 (((decide (b4Q < (a7i.v7.n : Int))) && a0H.fok) = false →
 a0Q a0H a7i H K)
def a0S (a4o : d7) (S5 : d8) (H : Hp) (K : d7 → Hp → Prop) : Prop :=
 TL ((0, a4o) : Int × d7) H fun (s : Int × d7) H n6 => a0R S5 s.1 s.2 H n6 K
def a0T (a7j : d8) (b4R : Int) (a0K : d7) (H : Hp) (n7 : (Int × d7) → Hp → Prop) (K : d7 → Hp → Prop) : Prop :=
 (((decide (b4R < (a7j.i6.n : Int))) && a0K.fok) = true →
 (0 : Int) ≤ b4R ∧ (b4R : Int) < a7j.i6.n ∧ ∃ d8S : a8, EltH H a7j.i6 b4R 4 (b7 d8S) ∧
 Y0 a0K d8S H (fun (e4i : d7) (f0P : Hp) =>
 n7 ((IntKind.wrap .i64 (b4R + 1)), e4i) f0P)) ∧
 (((decide (b4R < (a7j.i6.n : Int))) && a0K.fok) = false →
 a0S a0K a7j H K)
def a0U (b0s : d7) (N9 : d8) (H : Hp) (K : d7 → Hp → Prop) : Prop :=
 TL ((0, b0s) : Int × d7) H fun (s : Int × d7) H n7 => a0T N9 s.1 s.2 H n7 K
def a0V (c9x : d8) (b4S : Int) (b1z : d7) (H : Hp) (n8 : (Int × d7) → Hp → Prop) (K : d7 → Hp → Prop) : Prop :=
 (((decide (b4S < (c9x.m9.n : Int))) && b1z.fok) = true →
 (0 : Int) ≤ b4S ∧ (b4S : Int) < c9x.m9.n ∧ ∃ b8c : b8, EltH H c9x.m9 b4S 4 (d6 b8c) ∧
 a1U b1z b8c H (fun (e4j : d7) (f0Q : Hp) =>
 n8 ((IntKind.wrap .i64 (b4S + 1)), e4j) f0Q)) ∧
 (((decide (b4S < (c9x.m9.n : Int))) && b1z.fok) = false →
 a0U b1z c9x H K)
def D1 (w7 : Int) (a4C : Int) (r7 : d8) (R1 : d7) (H : Hp) (K : d7 → Hp → Prop) : Prop :=
 X9 R1 r7.g7 ((decide (r7.b6 = 1)) || (decide (r7.b6 = 2))) H (fun (U6 : d7) (H_6 : Hp) =>
 TL ((0, (d7.mk ((((U6.fok && (decide ((r7.i6.n : Int) = w7))) && (decide ((r7.m9.n : Int) = a4C))) && (((decide ((r7.v7.n : Int) = 0)) || (decide (r7.b6 = 3))) || (decide (r7.b6 = 4)))) && ((decide ((r7.t7.n : Int) = 0)) || (decide (r7.b6 = 3)))) U6.fnames)) : Int × d7) H_6 fun (s : Int × d7) H n8 => a0V r7 s.1 s.2 H n8 K)
def I6 (g1U : Int) (i6V : Int) (g4W : Int) (d0G : Bool) (e4k : d8) (f0R : d7) (H : Hp) (K : d7 → Hp → Prop) : Prop :=
 (d0G = true →
 D1 g1U 1 e4k f0R H K) ∧
 (d0G = false →
 (g4W = 7 →
 D1 g1U i6V e4k f0R H K) ∧
 (¬ (g4W = 7) →
 D1 g1U i6V e4k (d7.mk false f0R.fnames) H K))
def a2l (x0 : d7) (x1 : d8) (H : Hp) (K : d7 → Hp → Prop) : Prop :=
 (x1.b6 = 1 →
 D1 1 0 x1 x0 H K) ∧
 (¬ (x1.b6 = 1) →
 (x1.b6 = 2 →
 D1 2 0 x1 x0 H K) ∧
 (¬ (x1.b6 = 2) →
 (x1.b6 = 3 →
 I6 0 0 x1.b6 (decide (x1.b6 = 3)) x1 x0 H K) ∧
 (¬ (x1.b6 = 3) →
 (x1.b6 = 4 →
 I6 0 0 x1.b6 (decide (x1.b6 = 4)) x1 x0 H K) ∧
 (¬ (x1.b6 = 4) →
 (x1.b6 = 5 →
 I6 0 0 x1.b6 (decide (x1.b6 = 5)) x1 x0 H K) ∧
 (¬ (x1.b6 = 5) →
 I6 0 0 x1.b6 (decide (x1.b6 = 6)) x1 x0 H K)))))
theorem b6i (x0 : d7) (x1 : d8) (g0 : Nat) {K : d7 → Hp → Prop} (I : Inv w0 ps0 H0 H [bx g0 111 (l8 x0)] w) (hR : ∀ (y0 : d7) (H' : Hp) (w' : World) (_ : Inv w0 ps0 H0 H' [bx g0 111 (l8 y0)] w') (_ : K y0 H'), R (Value.tuple #[]) w') (h : a2l x0 x1 H K) : F49 (Value.pointer (some ⟨g0, 0, none⟩)) (Value.agg (g8 x1).toArray) w R E := by
 unfold a2l at h
 unfold F49
 refine J5 I (cs := (g8 x1)) rfl fun g_2 w_3 I_4 k_5 => ?_
 have hj1 : ∀ (w7 : Int) (a4C : Int) (R1 : d7) (H : Hp) (w : World) (_ : Inv w0 ps0 H0 H [bx g_2 73 (g8 x1), bx g0 111 (l8 R1)] w) (_ : D1 w7 a4C x1 R1 H K), e3d (Value.pointer (some ⟨g0, 0, none⟩)) (Value.pointer (some ⟨g_2, 0, none⟩)) (vi w7) (vi a4C) w R E := by
  intro w7 a4C R1 H w I h
  unfold e3d
  intro _
  unfold D1 at h
  refine a7 a9t ?_
  refine f7 (ld1 Tryz.isAgg9 (I.at1 (o := 1) (vs := [(Value.string x1.g7)]) (nb rfl) rfl)) ?_
  refine a7 O4 ?_
  refine f7 (ld1 Tryz.isAgg3 (I.at1 (o := 0) (vs := [(vi x1.b6)]) (nb rfl) rfl)) ?_
  refine a7 (i8 _ _ _ _ _ _) ?_
  refine a7 (Pu.g fun hb => by have b9 := hb; exact O4) ?_
  refine f7 (Ld.g fun hb => by have b9 := hb; simp only [i7 b9]; exact (ld1 Tryz.isAgg3 (I.at1 (o := 0) (vs := [(vi x1.b6)]) (nb rfl) rfl))) ?_
  refine a7 (Pu.g fun hb => by have b9 := hb; simp only [i7 b9]; exact (i8 _ _ _ _ _ _)) ?_
  refine a7 (J4 _ _) ?_
  refine g9 (cap := []) (fun args w => Tryz.call48 args w) ?_
  refine l7 (Fi := [bx g0 111 (l8 R1)]) (Fr := [bx g_2 73 (g8 x1)]) (I.bring 1) (h g0) (fun b7c H_6 b5P w_7 I_8 b7d k_9 a6w => ?_) (fun _ _ _ _ _ q => q.elim)
  obtain ⟨U6, rfl, rfl, h⟩ := a6w
  refine a7 (A7 _) ?_
  refine a7 L6 ?_
  refine f7 (ld1 Tryz.isAgg4 (I_8.at1 (o := 0) (vs := [(vB U6.fok)]) (nb rfl) rfl)) ?_
  refine a7 (Pu.g fun hb => by have b9 := hb; exact R8) ?_
  refine f7 (Ld.g fun hb => by have b9 := hb; simp only [i7 b9]; exact (ld1 Tryz.isAgg51 ((I_8.bring 1).at1 (o := 2) (vs := [(vs x1.i6)]) (nb rfl) rfl))) ?_
  refine a7 (Pu.g fun hb => by have b9 := hb; simp only [i7 b9]; exact (J3 _ _ _)) ?_
  simp only [u5]
  refine a7 (Pu.g fun hb => by have b9 := hb; simp only [i7 b9]; exact (i8 _ _ _ _ _ _)) ?_
  refine a7 (s7 _ _) ?_
  refine a7 (Pu.g fun hb => by have b9 := hb; exact M3) ?_
  refine f7 (Ld.g fun hb => by have b9 := hb; simp only [i7 b9]; exact (ld1 Tryz.isAgg57 ((I_8.bring 1).at1 (o := 3) (vs := [(vs x1.m9)]) (nb rfl) rfl))) ?_
  refine a7 (Pu.g fun hb => by have b9 := hb; simp only [i7 b9]; exact (U9 _ _ _)) ?_
  simp only [u5]
  refine a7 (Pu.g fun hb => by have b9 := hb; simp only [i7 b9]; exact (i8 _ _ _ _ _ _)) ?_
  refine a7 (s7 _ _) ?_
  refine a7 (Pu.g fun hb => by have b9 := hb; exact Y7) ?_
  refine f7 (Ld.g fun hb => by have b9 := hb; simp only [i7 b9]; exact (ld1 Tryz.isAgg23 ((I_8.bring 1).at1 (o := 4) (vs := [(vs x1.v7)]) (nb rfl) rfl))) ?_
  refine a7 (Pu.g fun hb => by have b9 := hb; simp only [i7 b9]; exact (W4 _ _ _)) ?_
  refine a7 (Pu.g fun hb => by have b9 := hb; simp only [i7 b9]; exact (i8 _ _ _ _ _ _)) ?_
  simp only [u5, b1b]
  refine a7 (Pu.e (a7n _ _ _) (Pu.g fun hb => by obtain ⟨b9, a3x⟩ := a9r hb; exact O4)) ?_
  refine f7 (Ld.e (a7n _ _ _) (Ld.g fun hb => by obtain ⟨b9, a3x⟩ := a9r hb; simp only [i7 hb]; exact (ld1 Tryz.isAgg3 ((I_8.bring 1).at1 (o := 0) (vs := [(vi x1.b6)]) (nb rfl) rfl)))) ?_
  refine a7 (Pu.e (a7n _ _ _) (Pu.g fun hb => by obtain ⟨b9, a3x⟩ := a9r hb; simp only [i7 hb]; exact (i8 _ _ _ _ _ _))) ?_
  refine a7 (Pu.g fun hb => by have b9 := hb; simp only [i7 b9, c8a b9]; exact (J4 _ _)) ?_
  simp only [b1b]
  refine a7 (Pu.e (a7n _ _ _) (Pu.g fun hb => by obtain ⟨b9, a3x⟩ := a9r hb; exact O4)) ?_
  refine f7 (Ld.e (a7n _ _ _) (Ld.g fun hb => by obtain ⟨b9, a3x⟩ := a9r hb; simp only [i7 hb]; exact (ld1 Tryz.isAgg3 ((I_8.bring 1).at1 (o := 0) (vs := [(vi x1.b6)]) (nb rfl) rfl)))) ?_
  refine a7 (Pu.e (a7n _ _ _) (Pu.g fun hb => by obtain ⟨b9, a3x⟩ := a9r hb; simp only [i7 hb]; exact (i8 _ _ _ _ _ _))) ?_
  refine a7 (Pu.g fun hb => by have b9 := hb; simp only [i7 b9, c8a b9]; exact (J4 _ _)) ?_
  refine a7 (s7 _ _) ?_
  refine a7 (Pu.g fun hb => by have b9 := hb; exact W5) ?_
  refine f7 (Ld.g fun hb => by have b9 := hb; simp only [i7 b9]; exact (ld1 Tryz.isAgg23 ((I_8.bring 1).at1 (o := 5) (vs := [(vs x1.t7)]) (nb rfl) rfl))) ?_
  refine a7 (Pu.g fun hb => by have b9 := hb; simp only [i7 b9]; exact (W4 _ _ _)) ?_
  refine a7 (Pu.g fun hb => by have b9 := hb; simp only [i7 b9]; exact (i8 _ _ _ _ _ _)) ?_
  simp only [u5, b1b]
  refine a7 (Pu.e (a7n _ _ _) (Pu.g fun hb => by obtain ⟨b9, a3x⟩ := a9r hb; exact O4)) ?_
  refine f7 (Ld.e (a7n _ _ _) (Ld.g fun hb => by obtain ⟨b9, a3x⟩ := a9r hb; simp only [i7 hb]; exact (ld1 Tryz.isAgg3 ((I_8.bring 1).at1 (o := 0) (vs := [(vi x1.b6)]) (nb rfl) rfl)))) ?_
  refine a7 (Pu.e (a7n _ _ _) (Pu.g fun hb => by obtain ⟨b9, a3x⟩ := a9r hb; simp only [i7 hb]; exact (i8 _ _ _ _ _ _))) ?_
  refine a7 (Pu.g fun hb => by have b9 := hb; simp only [i7 b9, c8a b9]; exact (J4 _ _)) ?_
  refine a7 (s7 _ _) ?_
  refine a7 (A7 _) ?_
  refine a7 L6 ?_
  refine m6 I_8 Tryz.sizeOf4 (vs := [(vB ((((U6.fok && (decide ((x1.i6.n : Int) = w7))) && (decide ((x1.m9.n : Int) = a4C))) && (((decide ((x1.v7.n : Int) = 0)) || (decide (x1.b6 = 3))) || (decide (x1.b6 = 4)))) && ((decide ((x1.t7.n : Int) = 0)) || (decide (x1.b6 = 3)))))]) (cs' := [(vB ((((U6.fok && (decide ((x1.i6.n : Int) = w7))) && (decide ((x1.m9.n : Int) = a4C))) && (((decide ((x1.v7.n : Int) = 0)) || (decide (x1.b6 = 3))) || (decide (x1.b6 = 4)))) && ((decide ((x1.t7.n : Int) = 0)) || (decide (x1.b6 = 3))))), (vB U6.fnames)]) rfl rfl (nb rfl) rfl rfl fun c0s g1P k3c => ?_
  have hj2 : ∀ (b0s : d7) (H : Hp) (w : World) (_ : Inv w0 ps0 H0 H [bx g0 111 (l8 b0s), bx g_2 73 (g8 x1)] w) (_ : a0U b0s x1 H K), e3c (Value.pointer (some ⟨g0, 0, none⟩)) (Value.pointer (some ⟨g_2, 0, none⟩)) w R E := by
   intro b0s H w I h
   unfold e3c
   intro _
   unfold a0U at h
   have hj3 : ∀ (a4o : d7) (H : Hp) (w : World) (_ : Inv w0 ps0 H0 H [bx g0 111 (l8 a4o), bx g_2 73 (g8 x1)] w) (_ : a0S a4o x1 H K), e3b (Value.pointer (some ⟨g0, 0, none⟩)) (Value.pointer (some ⟨g_2, 0, none⟩)) w R E := by
    intro a4o H w I h
    unfold e3b
    intro _
    unfold a0S at h
    have hj4 : ∀ (b3m : d7) (H : Hp) (w : World) (_ : Inv w0 ps0 H0 H [bx g0 111 (l8 b3m), bx g_2 73 (g8 x1)] w) (_ : a0Q b3m x1 H K), e3a (Value.pointer (some ⟨g0, 0, none⟩)) (Value.pointer (some ⟨g_2, 0, none⟩)) w R E := by
     intro b3m H w I h
     unfold e3a
     intro _
     unfold a0Q at h
     obtain ⟨f0S, d4J, j5R, c6Q⟩ := h
     refine B5 (J := fun n l w => ∃ (s : Int × d7) (H : Hp) , n = d4J s ∧ l = (match s with | (b4P, N5) => [(vi b4P)]) ∧ (match s with | (b4P, N5) => Inv w0 ps0 H0 H [bx g0 111 (l8 N5), bx g_2 73 (g8 x1)] w) ∧ f0S s H) ⟨_, (0, b3m), H, rfl, rfl, ((I.bring 1).bring 1), j5R⟩ ?_
     rintro k5q τ_113 w next5 ⟨⟨b4P, N5⟩, H, rfl, f0T, I, j5S⟩ hn5
     dsimp only at f0T I
     simp only [List.map_cons, List.map_nil, List.cons.injEq, and_true] at f0T
     have e9 := f0T
     simp only [e9]
     obtain ⟨n5, hm5, h⟩ : ∃ n5 : (Int × d7) → Hp → Prop, (∀ s' H', n5 s' H' → f0S s' H' ∧ d4J s' < d4J (b4P, N5)) ∧ a0P x1 b4P N5 H n5 K := ⟨_, fun _ _ h => h, c6Q (b4P, N5) H (fun s' H' => f0S s' H' ∧ d4J s' < d4J (b4P, N5)) j5S (fun _ _ a b => ⟨a, b⟩)⟩
     unfold f7h
     unfold a0P at h
     refine a7 W5 ?_
     refine f7 (ld1 Tryz.isAgg23 ((I.bring 1).at1 (o := 5) (vs := [(vs x1.t7)]) (nb rfl) rfl)) ?_
     refine a7 (W4 _ _ _) ?_
     refine a7 (w9 _ _ _ _ _ _) ?_
     simp only [u5]
     refine a7 (Pu.g fun hb => by have b9 := hb; simp only [i7 b9]; exact (A7 _)) ?_
     refine a7 (Pu.g fun hb => by have b9 := hb; simp only [i7 b9]; exact L6) ?_
     refine f7 (Ld.g fun hb => by have b9 := hb; simp only [i7 b9]; exact (ld1 Tryz.isAgg4 (I.at1 (o := 0) (vs := [(vB N5.fok)]) (nb rfl) rfl))) ?_
     refine a7 (s7 _ _) ?_
     refine o0 (fun f0U => ?_) (fun f0U => ?_)
     ·replace h := h.1 f0U
      refine a7 W5 ?_
      refine f7 (ld1 Tryz.isAgg23 ((I.bring 1).at1 (o := 5) (vs := [(vs x1.t7)]) (nb rfl) rfl)) ?_
      obtain ⟨b8U, d7e, c6P, c6R, h⟩ := h
      obtain ⟨k3o, k3p, d2s, c6R⟩ := c6R
      refine a7 (a0m d2s _ _ _ _ b8U d7e) ?_
      refine f7 (ldA (vs := (g8 c6P)) Tryz.isAgg73 Tryz.sizeOf73 rfl (I.atH c6R)) ?_
      refine g9 (cap := []) (fun args w => Tryz.call49 args w) ?_
      refine l7 (Fi := [bx g0 111 (l8 N5)]) (Fr := [bx g_2 73 (g8 x1)]) I (h g0) (fun j5T c3S j5U c9y d0H f0t j5V f0V => ?_) (fun _ _ _ _ _ q => q.elim)
      obtain ⟨e4g, rfl, rfl, h⟩ := f0V
      refine a7 (y6 _ _ _ _ _ _) ?_
      exact hn5 _ _ _ (hm5 _ _ h).2 ⟨((IntKind.wrap .i64 (b4P + 1)), e4g), c3S, rfl, rfl, ((d0H.bring 1).bring 1), (hm5 _ _ h).1⟩
     ·replace h := h.2 f0U
      exact hR N5 H _ (I.bring 1).drop h
    refine t6 fun j4 hx4 => ?_
    obtain ⟨f0W, d4K, j5W, j5X⟩ := h
    refine B5 (J := fun n l w => ∃ (s : Int × d7) (H : Hp) , n = d4K s ∧ l = (match s with | (b4Q, a0H) => [(vi b4Q)]) ∧ (match s with | (b4Q, a0H) => Inv w0 ps0 H0 H [bx g0 111 (l8 a0H), bx g_2 73 (g8 x1)] w) ∧ f0W s H) ⟨_, (0, a4o), H, rfl, rfl, ((I.bring 1).bring 1), j5W⟩ ?_
    rintro k5r τ_147 w next6 ⟨⟨b4Q, a0H⟩, H, rfl, f0X, I, j5Y⟩ hn6
    dsimp only at f0X I
    simp only [List.map_cons, List.map_nil, List.cons.injEq, and_true] at f0X
    have e8 := f0X
    simp only [e8]
    obtain ⟨n6, hm6, h⟩ : ∃ n6 : (Int × d7) → Hp → Prop, (∀ s' H', n6 s' H' → f0W s' H' ∧ d4K s' < d4K (b4Q, a0H)) ∧ a0R x1 b4Q a0H H n6 K := ⟨_, fun _ _ h => h, j5X (b4Q, a0H) H (fun s' H' => f0W s' H' ∧ d4K s' < d4K (b4Q, a0H)) j5Y (fun _ _ a b => ⟨a, b⟩)⟩
    unfold f7i
    unfold a0R at h
    refine a7 Y7 ?_
    refine f7 (ld1 Tryz.isAgg23 ((I.bring 1).at1 (o := 4) (vs := [(vs x1.v7)]) (nb rfl) rfl)) ?_
    refine a7 (W4 _ _ _) ?_
    refine a7 (w9 _ _ _ _ _ _) ?_
    simp only [u5]
    refine a7 (Pu.g fun hb => by have b9 := hb; simp only [i7 b9]; exact (A7 _)) ?_
    refine a7 (Pu.g fun hb => by have b9 := hb; simp only [i7 b9]; exact L6) ?_
    refine f7 (Ld.g fun hb => by have b9 := hb; simp only [i7 b9]; exact (ld1 Tryz.isAgg4 (I.at1 (o := 0) (vs := [(vB a0H.fok)]) (nb rfl) rfl))) ?_
    refine a7 (s7 _ _) ?_
    refine o0 (fun c6S => ?_) (fun c6S => ?_)
    ·replace h := h.1 c6S
     refine a7 Y7 ?_
     refine f7 (ld1 Tryz.isAgg23 ((I.bring 1).at1 (o := 4) (vs := [(vs x1.v7)]) (nb rfl) rfl)) ?_
     obtain ⟨b9v, j5Z, d8R, f0Y, h⟩ := h
     obtain ⟨k5s, k5t, j6a, f0Y⟩ := f0Y
     refine a7 (a0m j6a _ _ _ _ b9v j5Z) ?_
     refine f7 (ldA (vs := (g8 d8R)) Tryz.isAgg73 Tryz.sizeOf73 rfl (I.atH f0Y)) ?_
     refine g9 (cap := []) (fun args w => Tryz.call49 args w) ?_
     refine l7 (Fi := [bx g0 111 (l8 a0H)]) (Fr := [bx g_2 73 (g8 x1)]) I (h g0) (fun k5u f0O k5v b7O d8T k5w j6b j6c => ?_) (fun _ _ _ _ _ q => q.elim)
     obtain ⟨e4h, rfl, rfl, h⟩ := j6c
     refine a7 (y6 _ _ _ _ _ _) ?_
     exact hn6 _ _ _ (hm6 _ _ h).2 ⟨((IntKind.wrap .i64 (b4Q + 1)), e4h), f0O, rfl, rfl, ((d8T.bring 1).bring 1), (hm6 _ _ h).1⟩
    ·replace h := h.2 c6S
     exact hx4 _ _ (hj4 a0H H _ ((I.bring 1).bring 1) h)
   refine t6 fun j3 hx3 => ?_
   obtain ⟨f0Z, d4L, j6d, j6e⟩ := h
   refine B5 (J := fun n l w => ∃ (s : Int × d7) (H : Hp) , n = d4L s ∧ l = (match s with | (b4R, a0K) => [(vi b4R)]) ∧ (match s with | (b4R, a0K) => Inv w0 ps0 H0 H [bx g0 111 (l8 a0K), bx g_2 73 (g8 x1)] w) ∧ f0Z s H) ⟨_, (0, b0s), H, rfl, rfl, ((I.bring 1).bring 1), j6d⟩ ?_
   rintro k5x τ_181 w next7 ⟨⟨b4R, a0K⟩, H, rfl, d4M, I, j6f⟩ hn7
   dsimp only at d4M I
   simp only [List.map_cons, List.map_nil, List.cons.injEq, and_true] at d4M
   have e7 := d4M
   simp only [e7]
   obtain ⟨n7, hm7, h⟩ : ∃ n7 : (Int × d7) → Hp → Prop, (∀ s' H', n7 s' H' → f0Z s' H' ∧ d4L s' < d4L (b4R, a0K)) ∧ a0T x1 b4R a0K H n7 K := ⟨_, fun _ _ h => h, j6e (b4R, a0K) H (fun s' H' => f0Z s' H' ∧ d4L s' < d4L (b4R, a0K)) j6f (fun _ _ a b => ⟨a, b⟩)⟩
   unfold f7j
   unfold a0T at h
   refine a7 R8 ?_
   refine f7 (ld1 Tryz.isAgg51 ((I.bring 1).at1 (o := 2) (vs := [(vs x1.i6)]) (nb rfl) rfl)) ?_
   refine a7 (J3 _ _ _) ?_
   refine a7 (w9 _ _ _ _ _ _) ?_
   simp only [u5]
   refine a7 (Pu.g fun hb => by have b9 := hb; simp only [i7 b9]; exact (A7 _)) ?_
   refine a7 (Pu.g fun hb => by have b9 := hb; simp only [i7 b9]; exact L6) ?_
   refine f7 (Ld.g fun hb => by have b9 := hb; simp only [i7 b9]; exact (ld1 Tryz.isAgg4 (I.at1 (o := 0) (vs := [(vB a0K.fok)]) (nb rfl) rfl))) ?_
   refine a7 (s7 _ _) ?_
   refine o0 (fun c6T => ?_) (fun c6T => ?_)
   ·replace h := h.1 c6T
    refine a7 R8 ?_
    refine f7 (ld1 Tryz.isAgg51 ((I.bring 1).at1 (o := 2) (vs := [(vs x1.i6)]) (nb rfl) rfl)) ?_
    obtain ⟨d0g, j6g, d8S, d4N, h⟩ := h
    obtain ⟨k5y, k5z, j6h, d4N⟩ := d4N
    refine a7 (A0 j6h _ _ _ _ d0g j6g) ?_
    refine f7 (ldA (vs := (b7 d8S)) Tryz.isAgg53 Tryz.sizeOf53 rfl (I.atH d4N)) ?_
    refine g9 (cap := []) (fun args w => Tryz.call88 args w) ?_
    refine l7 (Fi := [bx g0 111 (l8 a0K)]) (Fr := [bx g_2 73 (g8 x1)]) I (h g0) (fun k5A f0P k5B c9W j6i k5C k5D j6j => ?_) (fun _ _ _ _ _ q => q.elim)
    obtain ⟨e4i, rfl, rfl, h⟩ := j6j
    refine a7 (y6 _ _ _ _ _ _) ?_
    exact hn7 _ _ _ (hm7 _ _ h).2 ⟨((IntKind.wrap .i64 (b4R + 1)), e4i), f0P, rfl, rfl, ((j6i.bring 1).bring 1), (hm7 _ _ h).1⟩
   ·replace h := h.2 c6T
    exact hx3 _ _ (hj3 a0K H _ ((I.bring 1).bring 1) h)
  refine t6 fun j2 hx2 => ?_
  obtain ⟨f1a, d4O, j6k, j6l⟩ := h
  refine B5 (J := fun n l w => ∃ (s : Int × d7) (H : Hp) , n = d4O s ∧ l = (match s with | (b4S, b1z) => [(vi b4S)]) ∧ (match s with | (b4S, b1z) => Inv w0 ps0 H0 H [bx g0 111 (l8 b1z), bx g_2 73 (g8 x1)] w) ∧ f1a s H) ⟨_, (0, (d7.mk ((((U6.fok && (decide ((x1.i6.n : Int) = w7))) && (decide ((x1.m9.n : Int) = a4C))) && (((decide ((x1.v7.n : Int) = 0)) || (decide (x1.b6 = 3))) || (decide (x1.b6 = 4)))) && ((decide ((x1.t7.n : Int) = 0)) || (decide (x1.b6 = 3)))) U6.fnames)), H_6, rfl, rfl, ((g1P.bring 1).bring 1), j6k⟩ ?_
  rintro k5E τ_215 w next8 ⟨⟨b4S, b1z⟩, H, rfl, f1b, I, j6m⟩ hn8
  dsimp only at f1b I
  simp only [List.map_cons, List.map_nil, List.cons.injEq, and_true] at f1b
  have e6 := f1b
  simp only [e6]
  obtain ⟨n8, hm8, h⟩ : ∃ n8 : (Int × d7) → Hp → Prop, (∀ s' H', n8 s' H' → f1a s' H' ∧ d4O s' < d4O (b4S, b1z)) ∧ a0V x1 b4S b1z H n8 K := ⟨_, fun _ _ h => h, j6l (b4S, b1z) H (fun s' H' => f1a s' H' ∧ d4O s' < d4O (b4S, b1z)) j6m (fun _ _ a b => ⟨a, b⟩)⟩
  unfold f7k
  unfold a0V at h
  refine a7 M3 ?_
  refine f7 (ld1 Tryz.isAgg57 ((I.bring 1).at1 (o := 3) (vs := [(vs x1.m9)]) (nb rfl) rfl)) ?_
  refine a7 (U9 _ _ _) ?_
  refine a7 (w9 _ _ _ _ _ _) ?_
  simp only [u5]
  refine a7 (Pu.g fun hb => by have b9 := hb; simp only [i7 b9]; exact (A7 _)) ?_
  refine a7 (Pu.g fun hb => by have b9 := hb; simp only [i7 b9]; exact L6) ?_
  refine f7 (Ld.g fun hb => by have b9 := hb; simp only [i7 b9]; exact (ld1 Tryz.isAgg4 (I.at1 (o := 0) (vs := [(vB b1z.fok)]) (nb rfl) rfl))) ?_
  refine a7 (s7 _ _) ?_
  refine o0 (fun c6U => ?_) (fun c6U => ?_)
  ·replace h := h.1 c6U
   refine a7 M3 ?_
   refine f7 (ld1 Tryz.isAgg57 ((I.bring 1).at1 (o := 3) (vs := [(vs x1.m9)]) (nb rfl) rfl)) ?_
   obtain ⟨b9w, d8U, b8c, d8V, h⟩ := h
   obtain ⟨j6n, k5F, j6o, d8V⟩ := d8V
   refine a7 (S7 j6o _ _ _ _ b9w d8U) ?_
   refine f7 (ldA (vs := (d6 b8c)) Tryz.isAgg59 Tryz.sizeOf59 rfl (I.atH d8V)) ?_
   refine g9 (cap := []) (fun args w => Tryz.call87 args w) ?_
   refine l7 (Fi := [bx g0 111 (l8 b1z)]) (Fr := [bx g_2 73 (g8 x1)]) I (h g0) (fun k5G f0Q k5H d8W j6p k5I k5J j6q => ?_) (fun _ _ _ _ _ q => q.elim)
   obtain ⟨e4j, rfl, rfl, h⟩ := j6q
   refine a7 (y6 _ _ _ _ _ _) ?_
   exact hn8 _ _ _ (hm8 _ _ h).2 ⟨((IntKind.wrap .i64 (b4S + 1)), e4j), f0Q, rfl, rfl, ((j6p.bring 1).bring 1), (hm8 _ _ h).1⟩
  ·replace h := h.2 c6U
   exact hx2 _ _ (hj2 b1z H _ ((I.bring 1).bring 1) h)
 refine t6 fun j1 hx1 => ?_
 refine a7 O4 ?_
 refine f7 (ld1 Tryz.isAgg3 (I_4.at1 (o := 0) (vs := [(vi x1.b6)]) (nb rfl) rfl)) ?_
 refine a7 (i8 _ _ _ _ _ _) ?_
 refine k7 (fun c6V => ?_) (fun c6V => ?_)
 ·replace h := h.1 c6V
  exact hx1 _ _ (hj1 1 0 x0 H _ ((I_4.bring 1).bring 1) h)
 ·replace h := h.2 c6V
  refine a7 (i8 _ _ _ _ _ _) ?_
  refine k7 (fun f1c => ?_) (fun f1c => ?_)
  ·replace h := h.1 f1c
   exact hx1 _ _ (hj1 2 0 x0 H _ ((I_4.bring 1).bring 1) h)
  ·replace h := h.2 f1c
   have hj9 : ∀ (d0G : Bool) (H : Hp) (w : World) (_ : Inv w0 ps0 H0 H [bx g_2 73 (g8 x1), bx g0 111 (l8 x0)] w) (_ : I6 0 0 x1.b6 d0G x1 x0 H K), e3j (Value.pointer (some ⟨g0, 0, none⟩)) (Value.pointer (some ⟨g_2, 0, none⟩)) (vi 0) (vi 0) (vi x1.b6) (vB d0G) w j1 R E := by
    intro d0G H w I h
    unfold e3j
    intro _
    unfold I6 at h
    refine o0 (fun f1d => ?_) (fun f1d => ?_)
    ·replace h := h.1 f1d
     exact hx1 _ _ (hj1 0 1 x0 H _ ((I.bring 1).bring 1) h)
    ·replace h := h.2 f1d
     refine a7 (i8 _ _ _ _ _ _) ?_
     refine k7 (fun f1e => ?_) (fun f1e => ?_)
     ·replace h := h.1 f1e
      exact hx1 _ _ (hj1 0 0 x0 H _ ((I.bring 1).bring 1) h)
     ·replace h := h.2 f1e
      refine a7 (A7 _) ?_
      refine a7 L6 ?_
      refine m6 (I.bring 1) Tryz.sizeOf4 (vs := [(vB false)]) (cs' := [(vB false), (vB x0.fnames)]) rfl rfl (nb rfl) rfl rfl fun d8K j6r k5K => ?_
      exact hx1 _ _ (hj1 0 0 (d7.mk false x0.fnames) H _ (j6r.bring 1) h)
   refine t6 fun j9 hx9 => ?_
   refine a7 (i8 _ _ _ _ _ _) ?_
   refine k7 (fun f1f => ?_) (fun f1f => ?_)
   ·replace h := h.1 f1f
    exact hx9 _ _ (hj9 (decide (x1.b6 = 3)) H _ ((I_4.bring 1).bring 1) h)
   ·replace h := h.2 f1f
    refine a7 (i8 _ _ _ _ _ _) ?_
    refine k7 (fun f1g => ?_) (fun f1g => ?_)
    ·replace h := h.1 f1g
     exact hx9 _ _ (hj9 (decide (x1.b6 = 4)) H _ ((I_4.bring 1).bring 1) h)
    ·replace h := h.2 f1g
     refine a7 (i8 _ _ _ _ _ _) ?_
     refine k7 (fun f1h => ?_) (fun f1h => ?_)
     ·replace h := h.1 f1h
      exact hx9 _ _ (hj9 (decide (x1.b6 = 5)) H _ ((I_4.bring 1).bring 1) h)
     ·replace h := h.2 f1h
      refine a7 (i8 _ _ _ _ _ _) ?_
      exact hx9 _ _ (hj9 (decide (x1.b6 = 6)) H _ ((I_4.bring 1).bring 1) h)
theorem b6K (x0 : d7) (x1 : d8) {H : Hp} {K : d7 → Hp → Prop} (h : a2l x0 x1 H K) : Y1 x0 x1 H K := by
 intro g0 w I
 refine i4N ?_
 refine b6i x0 x1 g0 I (fun y0 H' w' I' hk => ⟨H', _, I', y0, rfl, rfl, hk⟩) h
def a2S (b7E : d7) (k4P : d9) (N9 : m5) (H : Hp) (K : Int → Hp → Prop) : Prop :=
 a5C b7E H (fun (f1i : Int) (g1V : Hp) =>
 K f1i g1V)
def a2T (h0I : d9) (a1i : m5) (U5 : Int) (a6G : d7) (H : Hp) (n3 : (Int × d7) → Hp → Prop) (K : Int → Hp → Prop) : Prop :=
 (((decide (U5 < (a1i.V3.n : Int))) && a6G.fok) = true →
 (0 : Int) ≤ U5 ∧ (U5 : Int) < a1i.V3.n ∧ ∃ f1j : d8, EltH H a1i.V3 U5 6 (g8 f1j) ∧
 Y1 a6G f1j H (fun (e4l : d7) (f1k : Hp) =>
 n3 ((IntKind.wrap .i64 (U5 + 1)), e4l) f1k)) ∧
 (((decide (U5 < (a1i.V3.n : Int))) && a6G.fok) = false →
 a2S a6G h0I a1i H K)
def a2U (c0f : d7) (h0J : d9) (r7 : m5) (H : Hp) (K : Int → Hp → Prop) : Prop :=
 TL ((0, c0f) : Int × d7) H fun (s : Int × d7) H n3 => a2T h0J r7 s.1 s.2 H n3 K
def a2V (h0K : d9) (Q8 : m5) (a1E : Int) (a1S : d7) (H : Hp) (n4 : (Int × d7) → Hp → Prop) (K : Int → Hp → Prop) : Prop :=
 (a1E < (Q8.z8.n : Int) →
 ∃ a9I : I3, (a1S.fok = true → (0 : Int) ≤ a1E ∧ (a1E : Int) < Q8.z8.n ∧ EltH H Q8.z8 a1E 2 (y8 a9I)) ∧
 ∃ c6W : I3, ((a1S.fok && (decide (0 ≤ a9I.a1F))) = true → (0 : Int) ≤ a1E ∧ (a1E : Int) < Q8.z8.n ∧ EltH H Q8.z8 a1E 2 (y8 c6W)) ∧
 (0 : Int) ≤ a1E ∧ (a1E : Int) < Q8.z8.n ∧ ∃ d8X : I3, EltH H Q8.z8 a1E 2 (y8 d8X) ∧
 X9 (d7.mk ((a1S.fok && (decide (0 ≤ a9I.a1F))) && (decide (c6W.a1F ≤ 2147483647))) a1S.fnames) d8X.g7 true H (fun (e4m : d7) (f1l : Hp) =>
 n4 ((IntKind.wrap .i64 (a1E + 1)), e4m) f1l)) ∧
 (¬ (a1E < (Q8.z8.n : Int)) →
 a2U a1S h0K Q8 H K)
def a4r (x0 : m5) (H : Hp) (K : Int → Hp → Prop) : Prop :=
 a3K x0 H (fun (C1 : d9) (H_6 : Hp) =>
 (¬ (C1.fbad = 0) →
 K C1.fbad H_6) ∧
 (C1.fbad = 0 →
 TL ((0, (d7.mk true true)) : Int × d7) H_6 fun (s : Int × d7) H n4 => a2V C1 x0 s.1 s.2 H n4 K))
theorem b9c (x0 : m5) {K : Int → Hp → Prop} (I : Inv w0 ps0 H0 H [] w) (hR : ∀ (r0 : Int) (H' : Hp) (w' : World) (_ : Inv w0 ps0 H0 H' [] w') (_ : K r0 H'), R (vi r0) w') (h : a4r x0 H K) : F27 (Value.agg (k4 x0).toArray) w R E := by
 unfold a4r at h
 unfold F27
 refine J5 I (cs := (k4 x0)) rfl fun g_2 w_3 I_4 k_5 => ?_
 refine f7 (ldA Tryz.isAgg25 Tryz.sizeOf25 rfl (I_4.at1 (o := 0) (vs := (k4 x0)) (nb rfl) rfl)) ?_
 refine g9 (cap := []) (fun args w => Tryz.call47 args w) ?_
 refine l7 (Fi := []) (Fr := [bx g_2 25 (k4 x0)]) I_4 (h) (fun b7c H_6 b5P w_7 I_8 b7d k_9 a6w => ?_) (fun _ _ _ _ _ q => q.elim)
 obtain ⟨C1, rfl, rfl, h⟩ := a6w
 refine z7 I_8 Tryz.zeroValue108 (cs := [(vi 0), (vi 0), (vi 0)]) rfl fun d3d a1B a3y c0G => ?_
 refine m6 a3y Tryz.sizeOf108 (vs := (k8 C1)) (cs' := (k8 C1)) rfl rfl (nb rfl) rfl rfl fun r9 a0h b4p => ?_
 refine a7 a0b ?_
 refine f7 (ld1 Tryz.isAgg3 (a0h.at1 (o := 2) (vs := [(vi C1.fbad)]) (nb rfl) rfl)) ?_
 refine a7 (M7 _ _ _ _ _ _) ?_
 refine a4f (fun f1m => ?_) (fun f1m => ?_)
 ·replace h := h.1 f1m
  refine a7 a0b ?_
  refine f7 (ld1 Tryz.isAgg3 (a0h.at1 (o := 2) (vs := [(vi C1.fbad)]) (nb rfl) rfl)) ?_
  exact hR C1.fbad H_6 _ a0h.drop.drop h
 ·replace h := h.2 f1m
  refine a7 (d6m _ _) ?_
  refine z7 a0h Tryz.zeroValue111 (cs := [(vB false), (vB false)]) rfl fun c1E b6S e4n k3q => ?_
  refine m6 e4n Tryz.sizeOf111 (vs := [(vB true), (vB true)]) (cs' := [(vB true), (vB true)]) rfl rfl (nb rfl) rfl rfl fun B3 b8Z e9X => ?_
  have hj1 : ∀ (c0f : d7) (H : Hp) (w : World) (_ : Inv w0 ps0 H0 H [bx c1E 111 (l8 c0f), bx d3d 108 (k8 C1), bx g_2 25 (k4 x0)] w) (_ : a2U c0f C1 x0 H K), e2X (Value.pointer (some ⟨g_2, 0, none⟩)) (Value.pointer (some ⟨c1E, 0, none⟩)) w R E := by
   intro c0f H w I h
   unfold e2X
   intro _
   unfold a2U at h
   have hj2 : ∀ (b7E : d7) (H : Hp) (w : World) (_ : Inv w0 ps0 H0 H [bx c1E 111 (l8 b7E), bx d3d 108 (k8 C1), bx g_2 25 (k4 x0)] w) (_ : a2S b7E C1 x0 H K), e2U (Value.pointer (some ⟨c1E, 0, none⟩)) w R E := by
    intro b7E H w I h
    unfold e2U
    intro _
    unfold a2S at h
    refine f7 (ldA Tryz.isAgg111 Tryz.sizeOf111 rfl (I.at1 (o := 0) (vs := (l8 b7E)) (nb rfl) rfl)) ?_
    refine g9 (cap := []) (fun args w => Tryz.call50 args w) ?_
    refine l7 (Fi := []) (Fr := [bx c1E 111 (l8 b7E), bx d3d 108 (k8 C1), bx g_2 25 (k4 x0)]) I (h) (fun l1A g1V l1B g1W k3r i6W l1C k3s => ?_) (fun _ _ _ _ _ q => q.elim)
    obtain ⟨f1i, rfl, rfl, h⟩ := k3s
    exact hR f1i g1V _ k3r.drop.drop.drop h
   refine t6 fun j2 hx2 => ?_
   obtain ⟨f1n, d4P, j6s, j6t⟩ := h
   refine B5 (J := fun n l w => ∃ (s : Int × d7) (H : Hp) , n = d4P s ∧ l = (match s with | (U5, a6G) => [(vi U5)]) ∧ (match s with | (U5, a6G) => Inv w0 ps0 H0 H [bx c1E 111 (l8 a6G), bx d3d 108 (k8 C1), bx g_2 25 (k4 x0)] w) ∧ f1n s H) ⟨_, (0, c0f), H, rfl, rfl, (((I.bring 2).bring 2).bring 2), j6s⟩ ?_
   rintro k5L τ_120 w next3 ⟨⟨U5, a6G⟩, H, rfl, d8Y, I, j6u⟩ hn3
   dsimp only at d8Y I
   simp only [List.map_cons, List.map_nil, List.cons.injEq, and_true] at d8Y
   have e6 := d8Y
   simp only [e6]
   obtain ⟨n3, hm3, h⟩ : ∃ n3 : (Int × d7) → Hp → Prop, (∀ s' H', n3 s' H' → f1n s' H' ∧ d4P s' < d4P (U5, a6G)) ∧ a2T C1 x0 U5 a6G H n3 K := ⟨_, fun _ _ h => h, j6t (U5, a6G) H (fun s' H' => f1n s' H' ∧ d4P s' < d4P (U5, a6G)) j6u (fun _ _ a b => ⟨a, b⟩)⟩
   unfold f7f
   unfold a2T at h
   refine a7 a3D ?_
   refine f7 (ld1 Tryz.isAgg23 ((I.bring 2).at1 (o := 1) (vs := [(vs x0.V3)]) (nb rfl) rfl)) ?_
   refine a7 (W4 _ _ _) ?_
   refine a7 (w9 _ _ _ _ _ _) ?_
   refine a7 (Pu.g fun hb => by have b9 := hb; exact L6) ?_
   refine f7 (Ld.g fun hb => by have b9 := hb; simp only [i7 b9]; exact (ld1 Tryz.isAgg4 (I.at1 (o := 0) (vs := [(vB a6G.fok)]) (nb rfl) rfl))) ?_
   refine a7 (s7 _ _) ?_
   refine o0 (fun b6h => ?_) (fun b6h => ?_)
   ·replace h := h.1 b6h
    refine a7 a3D ?_
    refine f7 (ld1 Tryz.isAgg23 ((I.bring 2).at1 (o := 1) (vs := [(vs x0.V3)]) (nb rfl) rfl)) ?_
    obtain ⟨j6v, f1o, f1j, c2Z, h⟩ := h
    obtain ⟨l1D, k5M, f1p, c2Z⟩ := c2Z
    refine a7 (a0m f1p _ _ _ _ j6v f1o) ?_
    refine f7 (ldA (vs := (g8 f1j)) Tryz.isAgg73 Tryz.sizeOf73 rfl (I.atH c2Z)) ?_
    refine g9 (cap := []) (fun args w => Tryz.call49 args w) ?_
    refine l7 (Fi := [bx c1E 111 (l8 a6G)]) (Fr := [bx d3d 108 (k8 C1), bx g_2 25 (k4 x0)]) I (h c1E) (fun k5N f1k k5O a3I j6w k5P k5Q j6x => ?_) (fun _ _ _ _ _ q => q.elim)
    obtain ⟨e4l, rfl, rfl, h⟩ := j6x
    refine a7 (y6 _ _ _ _ _ _) ?_
    exact hn3 _ _ _ (hm3 _ _ h).2 ⟨((IntKind.wrap .i64 (U5 + 1)), e4l), f1k, rfl, rfl, (((j6w.bring 2).bring 2).bring 2), (hm3 _ _ h).1⟩
   ·replace h := h.2 b6h
    exact hx2 _ _ (hj2 a6G H _ (((I.bring 2).bring 2).bring 2) h)
  refine t6 fun j1 hx1 => ?_
  obtain ⟨f1q, d4Q, j6y, j6z⟩ := h
  refine B5 (J := fun n l w => ∃ (s : Int × d7) (H : Hp) , n = d4Q s ∧ l = (match s with | (a1E, a1S) => [(vi a1E)]) ∧ (match s with | (a1E, a1S) => Inv w0 ps0 H0 H [bx c1E 111 (l8 a1S), bx d3d 108 (k8 C1), bx g_2 25 (k4 x0)] w) ∧ f1q s H) ⟨_, (0, (d7.mk true true)), H_6, rfl, rfl, (((b8Z.bring 2).bring 2).bring 2), j6y⟩ ?_
  rintro k5R τ_171 w next4 ⟨⟨a1E, a1S⟩, H, rfl, f1r, I, j6A⟩ hn4
  dsimp only at f1r I
  simp only [List.map_cons, List.map_nil, List.cons.injEq, and_true] at f1r
  have e5 := f1r
  simp only [e5]
  obtain ⟨n4, hm4, h⟩ : ∃ n4 : (Int × d7) → Hp → Prop, (∀ s' H', n4 s' H' → f1q s' H' ∧ d4Q s' < d4Q (a1E, a1S)) ∧ a2V C1 x0 a1E a1S H n4 K := ⟨_, fun _ _ h => h, j6z (a1E, a1S) H (fun s' H' => f1q s' H' ∧ d4Q s' < d4Q (a1E, a1S)) j6A (fun _ _ a b => ⟨a, b⟩)⟩
  unfold f7g
  unfold a2V at h
  refine a7 a1G ?_
  refine f7 (ld1 Tryz.isAgg22 ((I.bring 2).at1 (o := 0) (vs := [(vs x0.z8)]) (nb rfl) rfl)) ?_
  refine a7 (b2t _ _ _) ?_
  refine a7 (w9 _ _ _ _ _ _) ?_
  refine k7 (fun f1s => ?_) (fun f1s => ?_)
  ·replace h := h.1 f1s
   refine a7 L6 ?_
   refine f7 (ld1 Tryz.isAgg4 (I.at1 (o := 0) (vs := [(vB a1S.fok)]) (nb rfl) rfl)) ?_
   refine a7 (Pu.g fun hb => by have b9 := hb; exact a1G) ?_
   refine f7 (Ld.g fun hb => by have b9 := hb; simp only [i7 b9]; exact (ld1 Tryz.isAgg22 ((I.bring 2).at1 (o := 0) (vs := [(vs x0.z8)]) (nb rfl) rfl))) ?_
   simp only [u5]
   obtain ⟨a9I, b8d, h⟩ := h
   obtain ⟨j6B, j6C, b8d⟩ := b3a b8d
   refine a7 (Pu.g fun hb => by have b9 := hb; simp only [i7 b9]; exact (b6O (b8d hb).2.2.1 _ _ _ _ (b8d hb).1 (b8d hb).2.1)) ?_
   refine a7 (Pu.g fun hb => by have b9 := hb; simp only [i7 b9]; exact b9m) ?_
   refine f7 (Ld.g fun hb => by have b9 := hb; simp only [i7 b9]; exact (ld1 (v := (vi a9I.a1F)) Tryz.isAgg3 ((I.atH (b8d hb).2.2.2).sub (k := 1) (n := 1) (nb rfl)))) ?_
   refine a7 (Pu.g fun hb => by have b9 := hb; simp only [i7 b9]; exact (a7M _ _ _ _ _ _)) ?_
   refine a7 (s7 _ _) ?_
   refine a7 (Pu.g fun hb => by have b9 := hb; exact a1G) ?_
   refine f7 (Ld.g fun hb => by have b9 := hb; simp only [i7 b9]; exact (ld1 Tryz.isAgg22 ((I.bring 2).at1 (o := 0) (vs := [(vs x0.z8)]) (nb rfl) rfl))) ?_
   simp only [u5]
   obtain ⟨c6W, d0I, h⟩ := h
   obtain ⟨g4X, k5S, d0I⟩ := b3a d0I
   refine a7 (Pu.g fun hb => by have b9 := hb; simp only [i7 b9]; exact (b6O (d0I hb).2.2.1 _ _ _ _ (d0I hb).1 (d0I hb).2.1)) ?_
   refine a7 (Pu.g fun hb => by have b9 := hb; simp only [i7 b9]; exact b9m) ?_
   refine f7 (Ld.g fun hb => by have b9 := hb; simp only [i7 b9]; exact (ld1 (v := (vi c6W.a1F)) Tryz.isAgg3 ((I.atH (d0I hb).2.2.2).sub (k := 1) (n := 1) (nb rfl)))) ?_
   refine a7 (Pu.g fun hb => by have b9 := hb; simp only [i7 b9]; exact (b3S _ _ _ _ _ _)) ?_
   refine a7 (s7 _ _) ?_
   refine a7 L6 ?_
   refine m6 I Tryz.sizeOf4 (vs := [(vB ((a1S.fok && (decide (0 ≤ a9I.a1F))) && (decide (c6W.a1F ≤ 2147483647))))]) (cs' := [(vB ((a1S.fok && (decide (0 ≤ a9I.a1F))) && (decide (c6W.a1F ≤ 2147483647)))), (vB a1S.fnames)]) rfl rfl (nb rfl) rfl rfl fun a5G b8e f1t => ?_
   refine a7 a1G ?_
   refine f7 (ld1 Tryz.isAgg22 ((b8e.bring 2).at1 (o := 0) (vs := [(vs x0.z8)]) (nb rfl) rfl)) ?_
   obtain ⟨j6D, f1u, d8X, d4R, h⟩ := h
   obtain ⟨k5T, k5U, f1v, d4R⟩ := d4R
   refine a7 (b6O f1v _ _ _ _ j6D f1u) ?_
   refine a7 d3D ?_
   refine f7 (ld1 (v := (Value.string d8X.g7)) Tryz.isAgg9 ((b8e.atH d4R).sub (k := 0) (n := 1) (nb rfl))) ?_
   refine g9 (cap := []) (fun args w => Tryz.call48 args w) ?_
   refine l7 (Fi := [bx c1E 111 [(vB ((a1S.fok && (decide (0 ≤ a9I.a1F))) && (decide (c6W.a1F ≤ 2147483647)))), (vB a1S.fnames)]]) (Fr := [bx d3d 108 (k8 C1), bx g_2 25 (k4 x0)]) b8e (h c1E) (fun k5V f1l k5W c2L j6E g4Y k5X j6F => ?_) (fun _ _ _ _ _ q => q.elim)
   obtain ⟨e4m, rfl, rfl, h⟩ := j6F
   refine a7 (y6 _ _ _ _ _ _) ?_
   exact hn4 _ _ _ (hm4 _ _ h).2 ⟨((IntKind.wrap .i64 (a1E + 1)), e4m), f1l, rfl, rfl, (((j6E.bring 2).bring 2).bring 2), (hm4 _ _ h).1⟩
  ·replace h := h.2 f1s
   exact hx1 _ _ (hj1 a1S H _ (((I.bring 2).bring 2).bring 2) h)
theorem b9G (x0 : m5) {H : Hp} {K : Int → Hp → Prop} (h : a4r x0 H K) : a7X x0 H K := by
 intro w I
 refine i4f ?_
 refine b9c x0 I (fun r0 H' w' I' hk => ⟨H', _, I', r0, rfl, rfl, hk⟩) h
end Go.Proofs.YtnhkdkcgdcgmdaaGreatDoor
