/- Typed formulas of the program's functions, and the theorems that the contracts follow from them; printed by lift.py off the code. -/
import Derived.Test.YtnhkdkcgdcgmdaaGreatDoorzUV1
namespace Go.Proofs.YtnhkdkcgdcgmdaaGreatDoor
open Go.RowKit
set_option maxRecDepth 100000
set_option maxHeartbeats 2000000
variable {w0 w : World} {ps0 : Nat → Prop} {H0 H : Hp} {R : RT} {E : Pan}
def b0m (H : Hp) (K : Bool → Hp → Prop) : Prop :=
 K true H
def X2 (c1Q : ByteArray) (S1 : Nat) (H : Hp) (n2 : Nat → Hp → Prop) (K : Bool → Hp → Prop) : Prop :=
 (S1 < c1Q.size →
 b0X ((Utf8.decode c1Q S1).1 : Int) H (fun (a7s : Bool) (b3f : Hp) =>
 TG ((!(!a7s) && (decide (((S1 : Nat) : Int) = 0))) = true) (a8j ((Utf8.decode c1Q S1).1 : Int) b3f) 0 b3f (fun (a9z : Int) (b2C : Hp) =>
 (((!a7s) || ((decide (((S1 : Nat) : Int) = 0)) && (!decide (a9z = 3)))) = true →
 K false b2C) ∧
 (((!a7s) || ((decide (((S1 : Nat) : Int) = 0)) && (!decide (a9z = 3)))) = false →
 n2 (S1 + (Utf8.decode c1Q S1).2) b2C)))) ∧
 (¬ (S1 < c1Q.size) →
 b0m H K)
def a9A (x0 : ByteArray) (H : Hp) (K : Bool → Hp → Prop) : Prop :=
 TG ((decide (x0 = ⟨#[]⟩)) = false) (b0S x0 H) false H (fun (J8 : Bool) (H_1 : Hp) =>
 TG (((decide (x0 = ⟨#[]⟩)) || (!J8)) = false) (a9w x0 H_1) false H_1 (fun (A4 : Bool) (a4w : Hp) =>
 TG ((((decide (x0 = ⟨#[]⟩)) || (!J8)) || A4) = false) (a7h x0 a4w) false a4w (fun (K4 : Bool) (X7 : Hp) =>
 (((((decide (x0 = ⟨#[]⟩)) || (!J8)) || A4) || K4) = true →
 K false X7) ∧
 (((((decide (x0 = ⟨#[]⟩)) || (!J8)) || A4) || K4) = false →
 TL (0 : Nat) X7 fun (s : Nat) H n2 => X2 x0 s H n2 K))))
theorem c5E (x0 : ByteArray) {K : Bool → Hp → Prop} (I : Inv w0 ps0 H0 H [] w) (hR : ∀ (r0 : Bool) (H' : Hp) (w' : World) (_ : Inv w0 ps0 H0 H' [] w') (_ : K r0 H'), R (vB r0) w') (h : a9A x0 H K) : e3Z (Value.string x0) w R E := by
 unfold a9A at h
 unfold e3Z
 refine a7 (W6 _ _ _ _ _) ?_
 simp only [z2]
 refine a4I (D := fun v_5 w_2 => ∃ (J8 : Bool) (H_1 : Hp) , v_5 = (gv (decide (x0 = ⟨#[]⟩)) false (vB J8)) ∧ (Inv w0 ps0 H0 H_1 [] w_2) ∧ (∀ i, i < w.heap.size → ¬ inF [] i → w_2.heap[i]? = w.heap[i]?) ∧ Hle H H_1 ∧ (TG (((decide (x0 = ⟨#[]⟩)) || (!J8)) = false) (a9w x0 H_1) false H_1 (fun (A4 : Bool) (a4w : Hp) =>
 TG ((((decide (x0 = ⟨#[]⟩)) || (!J8)) || A4) = false) (a7h x0 a4w) false a4w (fun (K4 : Bool) (X7 : Hp) =>
 (((((decide (x0 = ⟨#[]⟩)) || (!J8)) || A4) || K4) = true →
 K false X7) ∧
 (((((decide (x0 = ⟨#[]⟩)) || (!J8)) || A4) || K4) = false →
 TL (0 : Nat) X7 fun (s : Nat) H n2 => X2 x0 s H n2 K))))) (fun d0U => ?_) (fun d0U => ?_) ?_
 ·replace h := h.1 d0U
  have d7 := d0U
  simp only [i6 d7]
  refine f7 (cap := []) (fun args w => Tryz.call162 args w) ?_
  refine k8 (Fi := []) (Fr := []) I (h) (fun v_5 H_1 F_6 w_2 I_3 l_8 k_4 q_7 => ?_) (fun _ _ _ _ _ q => q.elim)
  obtain ⟨J8, rfl, rfl, h⟩ := q_7
  exact ⟨J8, H_1, by rfl, I_3, k_4, l_8, h⟩
 ·exact ⟨false, H, by rw [a9I d0U], I, fun _ _ _ => rfl, Hle.refl _, h.2 d0U⟩
 ·clear h
  rintro v_5 w_2 ⟨J8, H_1, rfl, I_3, k_4, l_8, h⟩
  refine a7 (Pu.g fun hb => by have d7 := hb; simp only [i6 d7]; exact (T4 _)) ?_
  refine a7 (M4 _ _) ?_
  simp only [z2]
  refine a4I (D := fun c8M S5 => ∃ (A4 : Bool) (a4w : Hp) , c8M = (gv ((decide (x0 = ⟨#[]⟩)) || (!J8)) false (vB A4)) ∧ (Inv w0 ps0 H0 a4w [] S5) ∧ (∀ i, i < w_2.heap.size → ¬ inF [] i → S5.heap[i]? = w_2.heap[i]?) ∧ Hle H_1 a4w ∧ (TG ((((decide (x0 = ⟨#[]⟩)) || (!J8)) || A4) = false) (a7h x0 a4w) false a4w (fun (K4 : Bool) (X7 : Hp) =>
 (((((decide (x0 = ⟨#[]⟩)) || (!J8)) || A4) || K4) = true →
 K false X7) ∧
 (((((decide (x0 = ⟨#[]⟩)) || (!J8)) || A4) || K4) = false →
 TL (0 : Nat) X7 fun (s : Nat) H n2 => X2 x0 s H n2 K)))) (fun d7Q => ?_) (fun d7Q => ?_) ?_
  ·replace h := h.1 d7Q
   have d7 := d7Q
   simp only [i6 d7]
   refine f7 (cap := []) (fun args w => Tryz.call163 args w) ?_
   refine k8 (Fi := []) (Fr := []) I_3 (h) (fun c8M a4w e4v S5 B1 c2V b6V c2W => ?_) (fun _ _ _ _ _ q => q.elim)
   obtain ⟨A4, rfl, rfl, h⟩ := c2W
   exact ⟨A4, a4w, by rfl, B1, b6V, c2V, h⟩
  ·exact ⟨false, H_1, by rw [a9I d7Q], I_3, fun _ _ _ => rfl, Hle.refl _, h.2 d7Q⟩
  ·clear h
   rintro c8M S5 ⟨A4, a4w, rfl, B1, b6V, c2V, h⟩
   refine a7 (M4 _ _) ?_
   simp only [z2]
   refine a4I (D := fun c2X t8 => ∃ (K4 : Bool) (X7 : Hp) , c2X = (gv (((decide (x0 = ⟨#[]⟩)) || (!J8)) || A4) false (vB K4)) ∧ (Inv w0 ps0 H0 X7 [] t8) ∧ (∀ i, i < S5.heap.size → ¬ inF [] i → t8.heap[i]? = S5.heap[i]?) ∧ Hle a4w X7 ∧ ((((((decide (x0 = ⟨#[]⟩)) || (!J8)) || A4) || K4) = true →
 K false X7) ∧
 (((((decide (x0 = ⟨#[]⟩)) || (!J8)) || A4) || K4) = false →
 TL (0 : Nat) X7 fun (s : Nat) H n2 => X2 x0 s H n2 K))) (fun d7R => ?_) (fun d7R => ?_) ?_
   ·replace h := h.1 d7R
    have d7 := d7R
    simp only [i6 d7]
    refine f7 (cap := []) (fun args w => Tryz.call164 args w) ?_
    refine k8 (Fi := []) (Fr := []) B1 (h) (fun c2X X7 f3z t8 a0f c2Y b3g c8N => ?_) (fun _ _ _ _ _ q => q.elim)
    obtain ⟨K4, rfl, rfl, h⟩ := c8N
    exact ⟨K4, X7, by rfl, a0f, b3g, c2Y, h⟩
   ·exact ⟨false, a4w, by rw [a9I d7R], B1, fun _ _ _ => rfl, Hle.refl _, h.2 d7R⟩
   ·clear h
    rintro c2X t8 ⟨K4, X7, rfl, a0f, b3g, c2Y, h⟩
    refine a7 (M4 _ _) ?_
    refine o2 (fun f3A => ?_) (fun f3A => ?_)
    ·replace h := h.1 f3A
     exact hR false X7 _ a0f h
    ·replace h := h.2 f3A
     have hj1 : ∀ (H : Hp) (w : World) (_ : Inv w0 ps0 H0 H [] w) (_ : b0m H K), d3a w R E := by
      intro H w I h
      unfold d3a
      intro _
      unfold b0m at h
      exact hR true H _ I h
     refine r9 fun j1 hx1 => ?_
     refine e2k Tryz.underlying9 x0 a0f fun e4w C0 b4u c8O => ?_
     obtain ⟨f3B, d7S, j1Z, j2a⟩ := h
     refine A7 (J := fun n l w => ∃ (s : Nat) (H : Hp) , n = d7S s ∧ l = [] ∧ Inv w0 ps0 H0 H [itf e4w x0 s] w ∧ f3B s H) ⟨_, 0, X7, rfl, rfl, b4u, j1Z⟩ ?_
     rintro j9L τ_94 w next2 ⟨S1, H, rfl, j2b, I, d7T⟩ hn2
     clear j2b
     obtain ⟨n2, hm2, h⟩ : ∃ n2 : Nat → Hp → Prop, (∀ s' H', n2 s' H' → f3B s' H' ∧ d7S s' < d7S S1) ∧ X2 x0 S1 H n2 K := ⟨_, fun _ _ h => h, j2a S1 H (fun s' H' => f3B s' H' ∧ d7S s' < d7S S1) d7T (fun _ _ a b => ⟨a, b⟩)⟩
     unfold e2z
     unfold X2 at h
     refine e9T I (fun c8P b1n f3C f3D => ?_) (fun c8P => ?_)
     ·replace h := h.1 c8P
      refine a7 (r6 _ _ (vB true) rfl) ?_
      refine o2 (fun e => ?_) (fun e => by cases e)
      refine a7 (r6 _ _ (vi ((S1 : Nat) : Int)) rfl) ?_
      refine a7 (r6 _ _ (Value.int .i32 ((Utf8.decode x0 S1).1 : Int)) rfl) ?_
      refine f7 (cap := []) (fun args w => Tryz.call165 args w) ?_
      refine k8 (Fi := []) (Fr := [itf e4w x0 (S1 + (Utf8.decode x0 S1).2)]) f3C (h) (fun d3r b3f f3E W9 c0W f3F e4x c8Q => ?_) (fun _ _ _ _ _ q => q.elim)
      obtain ⟨a7s, rfl, rfl, h⟩ := c8Q
      refine a7 (T4 _) ?_
      simp only [z2]
      refine a7 (Pu.g fun hb => by have d7 := hb; simp only [i6 d7]; exact (k7 _ _ _ _ _ _)) ?_
      simp only [b1S, c1D]
      refine c0r (a8C _ _ _) ?_
      refine a4I (D := fun e4y a6Z => ∃ (a9z : Int) (b2C : Hp) , e4y = (gv (!(!a7s) && (decide (((S1 : Nat) : Int) = 0))) true (vi a9z)) ∧ (Inv w0 ps0 H0 b2C [itf e4w x0 (S1 + (Utf8.decode x0 S1).2)] a6Z) ∧ (∀ i, i < W9.heap.size → ¬ inF [] i → a6Z.heap[i]? = W9.heap[i]?) ∧ Hle b3f b2C ∧ ((((!a7s) || ((decide (((S1 : Nat) : Int) = 0)) && (!decide (a9z = 3)))) = true →
 K false b2C) ∧
 (((!a7s) || ((decide (((S1 : Nat) : Int) = 0)) && (!decide (a9z = 3)))) = false →
 n2 (S1 + (Utf8.decode x0 S1).2) b2C))) (fun d3s => ?_) (fun d3s => ?_) ?_
      ·replace h := h.1 d3s
       obtain ⟨d7, a5u⟩ := b1R d3s
       simp only [i6 d3s]
       refine f7 (cap := []) (fun args w => Tryz.call166 args w) ?_
       refine k8 (Fi := []) (Fr := [itf e4w x0 (S1 + (Utf8.decode x0 S1).2)]) c0W (h) (fun e4y b2C j2c a6Z d3t f3G f3H f3I => ?_) (fun _ _ _ _ _ q => q.elim)
       obtain ⟨a9z, rfl, rfl, h⟩ := f3I
       exact ⟨a9z, b2C, by rfl, d3t, f3H, f3G, h⟩
      ·exact ⟨0, b3f, by rw [a9I d3s], c0W, fun _ _ _ => rfl, Hle.refl _, h.2 d3s⟩
      ·clear h
       rintro e4y a6Z ⟨a9z, b2C, rfl, d3t, f3H, f3G, h⟩
       refine a7 (Pu.e (a8C _ _ _) (Pu.g fun hb => by obtain ⟨d7, a5u⟩ := b1R hb; simp only [i6 hb]; exact (P9 _ _ _ _ _ _))) ?_
       refine a7 (Pu.g fun hb => by have d7 := hb; simp only [i6 d7, b8l d7]; exact (w8 _ _)) ?_
       refine a7 (M4 _ _) ?_
       refine o2 (fun b8J => ?_) (fun b8J => ?_)
       ·replace h := h.1 b8J
        exact hR false b2C _ d3t.drop h
       ·replace h := h.2 b8J
        exact hn2 _ _ _ (hm2 _ _ h).2 ⟨(S1 + (Utf8.decode x0 S1).2), b2C, rfl, rfl, d3t, (hm2 _ _ h).1⟩
     ·replace h := h.2 c8P
      refine a7 (r6 _ _ (vB false) rfl) ?_
      refine o2 (fun e => by cases e) (fun e => ?_)
      exact hx1 _ _ (hj1 H _ I.drop h)
theorem c8c (x0 : ByteArray) {H : Hp} {K : Bool → Hp → Prop} (h : a9A x0 H K) : a9x x0 H K := by
 intro w I
 refine g1j ?_
 refine c5E x0 I (fun r0 H' w' I' hk => ⟨H', _, I', r0, rfl, rfl, hk⟩) h
def a7t (x0 : E0) (H : Hp) (K : g8 → Hp → Prop) : Prop :=
 K (g8.S2 (a0D.mk x0)) H
theorem c1R (x0 : E0) {K : g8 → Hp → Prop} (I : Inv w0 ps0 H0 H [] w) (hR : ∀ (r0 : g8) (H' : Hp) (w' : World) (_ : Inv w0 ps0 H0 H' [] w') (_ : K r0 H'), R (E8 r0) w') (h : a7t x0 H K) : F77 (Value.agg (w6 x0).toArray) w R E := by
 unfold a7t at h
 unfold F77
 refine K6 I (cs := (w6 x0)) rfl fun g_2 w_3 I_4 k_5 => ?_
 refine f2 (ldA Tryz.isAgg71 Tryz.sizeOf71 rfl (I_4.at1 (o := 0) (vs := (w6 x0)) (nb rfl) rfl)) ?_
 refine a7 (d5X _ _) ?_
 refine a7 (d2O (a0D.mk x0)) ?_
 exact hR (g8.S2 (a0D.mk x0)) H _ I_4.drop h
theorem c2Z (x0 : E0) {H : Hp} {K : g8 → Hp → Prop} (h : a7t x0 H K) : b4q x0 H K := by
 intro w I
 refine g9E ?_
 refine c1R x0 I (fun r0 H' w' I' hk => ⟨H', _, I', r0, rfl, rfl, hk⟩) h
def I6 (C6 : (List g8)) (H : Hp) (K : Sl → Hp → Prop) : Prop :=
 ∀ (r7 : Sl) (M1 : Hp), Hle H M1 → SlH M1 1 v8 r7 C6 → r7.n ≤ r7.c →
 K r7 M1
def I7 (a0u : Sl) (a4V : Int) (m6 : (List g8)) (o0 : Int) (H : Hp) (n2 : ((List g8) × Int) → Hp → Prop) (K : Sl → Hp → Prop) : Prop :=
 (o0 < a4V →
 (0 : Int) ≤ o0 ∧ (o0 : Int) < a0u.n ∧ ∃ x_1 : E0, EltH H a0u o0 2 (w6 x_1) ∧
 b4q x_1 H (fun (I0 : g8) (U1 : Hp) =>
 (m6.length + ([I0] : List g8).length) * 17 ≤ 140737488355328 ∧
 n2 ((m6 ++ [I0]), (IntKind.wrap .i64 (o0 + 1))) U1)) ∧
 (¬ (o0 < a4V) →
 I6 m6 H K)
def K8 (x0 : Sl) (H : Hp) (K : Sl → Hp → Prop) : Prop :=
 TL (([], 0) : (List g8) × Int) H fun (s : (List g8) × Int) H n2 => I7 x0 (x0.n : Int) s.1 s.2 H n2 K
theorem a5N (x0 : Sl) {K : Sl → Hp → Prop} (I : Inv w0 ps0 H0 H [] w) (hR : ∀ (r0 : Sl) (H' : Hp) (w' : World) (_ : Inv w0 ps0 H0 H' [] w') (_ : K r0 H'), R (vs r0) w') (h : K8 x0 H K) : F76 (vs x0) (fC 77) w R E := by
 unfold K8 at h
 unfold F76
 have hj1 : ∀ (C6 : (List g8)) (r7 : Sl) (Fs5j1 : Frag) (H : Hp) (w : World) (_ : RowL 150 1 v8 r7 C6 Fs5j1) (_ : Inv w0 ps0 H0 H [Fs5j1] w) (_ : I6 C6 H K), d7e (vs r7) w R E := by
  intro C6 r7 Fs5j1 H w a6v I h
  unfold d7e
  intro _
  unfold I6 at h
  obtain ⟨M1, a6K, b0n, a5v, a5W⟩ := Inv.freezeC I a6v (by decide)
  replace h := h r7 M1 b0n a5v a5W
  exact hR r7 M1 _ a6K h
 refine r9 fun j1 hx1 => ?_
 refine a7 (a9V _ _ _) ?_
 obtain ⟨a2N, R4, b1x, b1y⟩ := h
 refine A7 (J := fun n l w => ∃ (s : (List g8) × Int) (H : Hp) (B9 : Sl) (Fs5l2 : Frag) , n = R4 s ∧ l = (match s with | (m6, o0) => [(vs B9), (vi o0)]) ∧ (match s with | (m6, o0) => RowL 150 1 v8 B9 m6 Fs5l2) ∧ (match s with | (m6, o0) => Inv w0 ps0 H0 H [Fs5l2] w) ∧ a2N s H) ⟨_, ([], 0), H, (Sl.mk none 0 0), [], rfl, rfl, (RowL.nil T5 W0), I.nil, b1x⟩ ?_
 rintro c5F τ_50 w next2 ⟨⟨m6, o0⟩, H, B9, Fs5l2, rfl, a1W, Q2, I, b1z⟩ hn2
 dsimp only at a1W I Q2
 simp only [List.map_cons, List.map_nil, List.cons.injEq, and_true] at a1W
 obtain ⟨e5, e10⟩ := a1W
 simp only [e5, e10]
 obtain ⟨n2, hm2, h⟩ : ∃ n2 : ((List g8) × Int) → Hp → Prop, (∀ s' H', n2 s' H' → a2N s' H' ∧ R4 s' < R4 (m6, o0)) ∧ I7 x0 (x0.n : Int) m6 o0 H n2 K := ⟨_, fun _ _ h => h, b1y (m6, o0) H (fun s' H' => a2N s' H' ∧ R4 s' < R4 (m6, o0)) b1z (fun _ _ a b => ⟨a, b⟩)⟩
 unfold f0A
 unfold I7 at h
 refine a7 (v7 _ _ _ _ _ _) ?_
 refine k4 (fun a0H => ?_) (fun a0H => ?_)
 ·replace h := h.1 a0H
  obtain ⟨h_4, h_5, x_1, h_7, h⟩ := h
  obtain ⟨g_2, o_3, h_6, h_7⟩ := h_7
  refine a7 (b5u h_6 _ _ _ _ h_4 h_5) ?_
  refine f2 (ldA (vs := (w6 x_1)) Tryz.isAgg71 Tryz.sizeOf71 rfl (I.atH h_7)) ?_
  refine z8 I Tryz.zeroValue71 (cs := [(eS), (vi 0)]) rfl fun g_9 o9 a3G b3h => ?_
  refine m5 a3G Tryz.sizeOf71 (vs := (w6 x_1)) (cs' := (w6 x_1)) rfl rfl (nb rfl) rfl rfl fun a3F P1 a4W => ?_
  refine f2 (ldA Tryz.isAgg71 Tryz.sizeOf71 rfl (P1.at1 (o := 0) (vs := (w6 x_1)) (nb rfl) rfl)) ?_
  refine f7 (cap := []) (fun args w => Tryz.call77 args w) ?_
  refine k8 (Fi := []) (Fr := [bx g_9 71 (w6 x_1), Fs5l2]) P1 (h) (fun c3a U1 c0X a0t a4X c3b c0Y b0o => ?_) (fun _ _ _ _ _ q => q.elim)
  obtain ⟨I0, rfl, rfl, h⟩ := b0o
  refine a4b (e := 150) (c := v8) (xs := [I0]) a4X (b5w _) rfl rfl T5 W0 (nb rfl) fun c0Z b4v B0 a8c X3 a9P => ?_
  obtain ⟨b0p, h⟩ := h
  refine c1F (s := B9) (xs := m6) (X3.bring 2) Q2 (a8c.srcO ((X3.bring 2).bring 1)) b0p fun a7u a9Q A6 a9i a6L b8K => ?_
  refine a7 (u7 _ _ _ _ _ _) ?_
  exact hn2 _ _ _ (hm2 _ _ h).2 ⟨((m6 ++ [I0]), (IntKind.wrap .i64 (o0 + 1))), U1, a7u, a9Q, rfl, rfl, a9i, ((a6L.bring 1).drop.bring 1).drop, (hm2 _ _ h).1⟩
 ·replace h := h.2 a0H
  exact hx1 _ _ (hj1 m6 B9 Fs5l2 H _ Q2 I h)
theorem a5X (x0 : Sl) {H : Hp} {K : Sl → Hp → Prop} (h : K8 x0 H K) : Q4 x0 H K := by
 intro w I
 refine g9C ?_
 refine a5N x0 I (fun r0 H' w' I' hk => ⟨H', _, I', r0, rfl, rfl, hk⟩) h
def I8 (C6 : (List g8)) (H : Hp) (K : Sl → Hp → Prop) : Prop :=
 ∀ (r7 : Sl) (M1 : Hp), Hle H M1 → SlH M1 1 v8 r7 C6 → r7.n ≤ r7.c →
 K r7 M1
def I9 (a0u : Sl) (a4V : Int) (m6 : (List g8)) (o0 : Int) (H : Hp) (n2 : ((List g8) × Int) → Hp → Prop) (K : Sl → Hp → Prop) : Prop :=
 (o0 < a4V →
 (0 : Int) ≤ o0 ∧ (o0 : Int) < a0u.n ∧ ∃ x_1 : d6, EltH H a0u o0 6 (d9 x_1) ∧
 b4r x_1 H (fun (I0 : g8) (U1 : Hp) =>
 (m6.length + ([I0] : List g8).length) * 17 ≤ 140737488355328 ∧
 n2 ((m6 ++ [I0]), (IntKind.wrap .i64 (o0 + 1))) U1)) ∧
 (¬ (o0 < a4V) →
 I8 m6 H K)
def K9 (x0 : Sl) (H : Hp) (K : Sl → Hp → Prop) : Prop :=
 TL (([], 0) : (List g8) × Int) H fun (s : (List g8) × Int) H n2 => I9 x0 (x0.n : Int) s.1 s.2 H n2 K
theorem a5O (x0 : Sl) {K : Sl → Hp → Prop} (I : Inv w0 ps0 H0 H [] w) (hR : ∀ (r0 : Sl) (H' : Hp) (w' : World) (_ : Inv w0 ps0 H0 H' [] w') (_ : K r0 H'), R (vs r0) w') (h : K9 x0 H K) : F78 (vs x0) (fC 79) w R E := by
 unfold K9 at h
 unfold F78
 have hj1 : ∀ (C6 : (List g8)) (r7 : Sl) (Fs5j1 : Frag) (H : Hp) (w : World) (_ : RowL 150 1 v8 r7 C6 Fs5j1) (_ : Inv w0 ps0 H0 H [Fs5j1] w) (_ : I8 C6 H K), d7f (vs r7) w R E := by
  intro C6 r7 Fs5j1 H w a6v I h
  unfold d7f
  intro _
  unfold I8 at h
  obtain ⟨M1, a6K, b0n, a5v, a5W⟩ := Inv.freezeC I a6v (by decide)
  replace h := h r7 M1 b0n a5v a5W
  exact hR r7 M1 _ a6K h
 refine r9 fun j1 hx1 => ?_
 refine a7 (W8 _ _ _) ?_
 obtain ⟨a2N, R4, b1x, b1y⟩ := h
 refine A7 (J := fun n l w => ∃ (s : (List g8) × Int) (H : Hp) (B9 : Sl) (Fs5l2 : Frag) , n = R4 s ∧ l = (match s with | (m6, o0) => [(vs B9), (vi o0)]) ∧ (match s with | (m6, o0) => RowL 150 1 v8 B9 m6 Fs5l2) ∧ (match s with | (m6, o0) => Inv w0 ps0 H0 H [Fs5l2] w) ∧ a2N s H) ⟨_, ([], 0), H, (Sl.mk none 0 0), [], rfl, rfl, (RowL.nil T5 W0), I.nil, b1x⟩ ?_
 rintro c5F τ_50 w next2 ⟨⟨m6, o0⟩, H, B9, Fs5l2, rfl, a1W, Q2, I, b1z⟩ hn2
 dsimp only at a1W I Q2
 simp only [List.map_cons, List.map_nil, List.cons.injEq, and_true] at a1W
 obtain ⟨e5, e10⟩ := a1W
 simp only [e5, e10]
 obtain ⟨n2, hm2, h⟩ : ∃ n2 : ((List g8) × Int) → Hp → Prop, (∀ s' H', n2 s' H' → a2N s' H' ∧ R4 s' < R4 (m6, o0)) ∧ I9 x0 (x0.n : Int) m6 o0 H n2 K := ⟨_, fun _ _ h => h, b1y (m6, o0) H (fun s' H' => a2N s' H' ∧ R4 s' < R4 (m6, o0)) b1z (fun _ _ a b => ⟨a, b⟩)⟩
 unfold f0B
 unfold I9 at h
 refine a7 (v7 _ _ _ _ _ _) ?_
 refine k4 (fun a0H => ?_) (fun a0H => ?_)
 ·replace h := h.1 a0H
  obtain ⟨h_4, h_5, x_1, h_7, h⟩ := h
  obtain ⟨g_2, o_3, h_6, h_7⟩ := h_7
  refine a7 (a6W h_6 _ _ _ _ h_4 h_5) ?_
  refine f2 (ldA (vs := (d9 x_1)) Tryz.isAgg73 Tryz.sizeOf73 rfl (I.atH h_7)) ?_
  refine z8 I Tryz.zeroValue73 (cs := [(vi 0), (eS), (nS), (nS), (nS), (nS)]) rfl fun g_9 o9 a3G b3h => ?_
  refine m5 a3G Tryz.sizeOf73 (vs := (d9 x_1)) (cs' := (d9 x_1)) rfl rfl (nb rfl) rfl rfl fun a3F P1 a4W => ?_
  refine f2 (ldA Tryz.isAgg73 Tryz.sizeOf73 rfl (P1.at1 (o := 0) (vs := (d9 x_1)) (nb rfl) rfl)) ?_
  refine f7 (cap := []) (fun args w => Tryz.call79 args w) ?_
  refine k8 (Fi := []) (Fr := [bx g_9 73 (d9 x_1), Fs5l2]) P1 (h) (fun c3a U1 c0X a0t a4X c3b c0Y b0o => ?_) (fun _ _ _ _ _ q => q.elim)
  obtain ⟨I0, rfl, rfl, h⟩ := b0o
  refine a4b (e := 150) (c := v8) (xs := [I0]) a4X (b5w _) rfl rfl T5 W0 (nb rfl) fun c0Z b4v B0 a8c X3 a9P => ?_
  obtain ⟨b0p, h⟩ := h
  refine c1F (s := B9) (xs := m6) (X3.bring 2) Q2 (a8c.srcO ((X3.bring 2).bring 1)) b0p fun a7u a9Q A6 a9i a6L b8K => ?_
  refine a7 (u7 _ _ _ _ _ _) ?_
  exact hn2 _ _ _ (hm2 _ _ h).2 ⟨((m6 ++ [I0]), (IntKind.wrap .i64 (o0 + 1))), U1, a7u, a9Q, rfl, rfl, a9i, ((a6L.bring 1).drop.bring 1).drop, (hm2 _ _ h).1⟩
 ·replace h := h.2 a0H
  exact hx1 _ _ (hj1 m6 B9 Fs5l2 H _ Q2 I h)
theorem a5Y (x0 : Sl) {H : Hp} {K : Sl → Hp → Prop} (h : K9 x0 H K) : C4 x0 H K := by
 intro w I
 refine g9G ?_
 refine a5O x0 I (fun r0 H' w' I' hk => ⟨H', _, I', r0, rfl, rfl, hk⟩) h
def a2u (b0U : d5) (V4 : d5) (O0 : g7) (H : Hp) (K : d5 → Hp → Prop) : Prop :=
 K b0U H
def a2v (Q0 : g7) (T7 : Int) (a5Z : d5) (D7 : d5) (H : Hp) (n3 : (Int × d5 × d5) → Hp → Prop) (K : d5 → Hp → Prop) : Prop :=
 (((decide (T7 < (Q0.G3.n : Int))) && (decide (a5Z.fbad = 0))) = true →
 (0 : Int) ≤ T7 ∧ (T7 : Int) < Q0.G3.n ∧ ∃ c3c : d6, EltH H Q0.G3 T7 6 (d9 c3c) ∧
 Y9 a5Z c3c 1 H (fun (c3d : d5) (c8R : Hp) =>
 n3 ((IntKind.wrap .i64 (T7 + 1)), c3d, D7) c8R)) ∧
 (((decide (T7 < (Q0.G3.n : Int))) && (decide (a5Z.fbad = 0))) = false →
 a2u a5Z D7 Q0 H K)
def a2w (b7Y : d5) (m8 : d5) (p9 : g7) (H : Hp) (K : d5 → Hp → Prop) : Prop :=
 TL ((0, b7Y, m8) : Int × d5 × d5) H fun (s : Int × d5 × d5) H n3 => a2v p9 s.1 s.2.1 s.2.2 H n3 K
def a2x (K1 : g7) (V1 : Int) (a6a : d5) (I1 : d5) (H : Hp) (n4 : (Int × d5 × d5) → Hp → Prop) (K : d5 → Hp → Prop) : Prop :=
 (((decide (V1 < (K1.r5.n : Int))) && (decide (a6a.fbad = 0))) = true →
 S8 a6a 1 H (fun (c0w : Bool) (e4z : d5) (c3e : Hp) =>
 n4 ((IntKind.wrap .i64 (V1 + 1)), e4z, I1) c3e)) ∧
 (((decide (V1 < (K1.r5.n : Int))) && (decide (a6a.fbad = 0))) = false →
 a2w a6a I1 K1 H K)
def a3T (x0 : g7) (H : Hp) (K : d5 → Hp → Prop) : Prop :=
 TL ((0, (d5.mk 0 0 0), (d5.mk 0 0 0)) : Int × d5 × d5) H fun (s : Int × d5 × d5) H n4 => a2x x0 s.1 s.2.1 s.2.2 H n4 K
theorem b6y (x0 : g7) {K : d5 → Hp → Prop} (I : Inv w0 ps0 H0 H [] w) (hR : ∀ (r0 : d5) (H' : Hp) (w' : World) (_ : Inv w0 ps0 H0 H' [] w') (_ : K r0 H'), R (Value.agg (i7 r0).toArray) w') (h : a3T x0 H K) : F47 (Value.agg (i5 x0).toArray) w R E := by
 unfold a3T at h
 unfold F47
 refine K6 I (cs := (i5 x0)) rfl fun g_2 w_3 I_4 k_5 => ?_
 refine z8 I_4 Tryz.zeroValue108 (cs := [(vi 0), (vi 0), (vi 0)]) rfl fun g_7 w_8 I_9 a9j => ?_
 refine a7 (e3H ) ?_
 refine z8 I_9 Tryz.zeroValue108 (cs := [(vi 0), (vi 0), (vi 0)]) rfl fun a7v a3F P1 a4W => ?_
 refine m5 P1 Tryz.sizeOf108 (vs := [(vi 0), (vi 0), (vi 0)]) (cs' := [(vi 0), (vi 0), (vi 0)]) rfl rfl (nb rfl) rfl rfl fun q8 b0q d7U => ?_
 have hj1 : ∀ (b7Y : d5) (m8 : d5) (H : Hp) (w : World) (_ : Inv w0 ps0 H0 H [bx a7v 108 (i7 b7Y), bx g_7 108 (i7 m8), bx g_2 25 (i5 x0)] w) (_ : a2w b7Y m8 x0 H K), d6y (Value.pointer (some ⟨g_2, 0, none⟩)) (Value.pointer (some ⟨g_7, 0, none⟩)) (Value.pointer (some ⟨a7v, 0, none⟩)) w R E := by
  intro b7Y m8 H w I h
  unfold d6y
  intro _
  unfold a2w at h
  have hj2 : ∀ (b0U : d5) (V4 : d5) (H : Hp) (w : World) (_ : Inv w0 ps0 H0 H [bx a7v 108 (i7 b0U), bx g_7 108 (i7 V4), bx g_2 25 (i5 x0)] w) (_ : a2u b0U V4 x0 H K), d6w (Value.pointer (some ⟨g_7, 0, none⟩)) (Value.pointer (some ⟨a7v, 0, none⟩)) w R E := by
   intro b0U V4 H w I h
   unfold d6w
   intro _
   unfold a2u at h
   refine f2 (ldA Tryz.isAgg108 Tryz.sizeOf108 rfl (I.at1 (o := 0) (vs := (i7 b0U)) (nb rfl) rfl)) ?_
   refine m5 (I.bring 1) Tryz.sizeOf108 (vs := (i7 b0U)) (cs' := (i7 b0U)) rfl rfl (nb rfl) rfl rfl fun D8 b1A d7V => ?_
   refine J4 Tryz.isAgg108 Tryz.sizeOf108 rfl (b1A.at1 (o := 0) (vs := (i7 b0U)) (nb rfl) rfl) ?_
   exact hR b0U H _ b1A.drop.drop.drop h
  refine r9 fun j2 hx2 => ?_
  obtain ⟨b8L, b1B, d7W, d7X⟩ := h
  refine A7 (J := fun n l w => ∃ (s : Int × d5 × d5) (H : Hp) , n = b1B s ∧ l = (match s with | (T7, a5Z, D7) => [(vi T7)]) ∧ (match s with | (T7, a5Z, D7) => Inv w0 ps0 H0 H [bx a7v 108 (i7 a5Z), bx g_7 108 (i7 D7), bx g_2 25 (i5 x0)] w) ∧ b8L s H) ⟨_, (0, b7Y, m8), H, rfl, rfl, (((I.bring 2).bring 2).bring 2), d7W⟩ ?_
  rintro h4z τ_78 w next3 ⟨⟨T7, a5Z, D7⟩, H, rfl, b2z, I, d7Y⟩ hn3
  dsimp only at b2z I
  simp only [List.map_cons, List.map_nil, List.cons.injEq, and_true] at b2z
  have e5 := b2z
  simp only [e5]
  obtain ⟨n3, hm3, h⟩ : ∃ n3 : (Int × d5 × d5) → Hp → Prop, (∀ s' H', n3 s' H' → b8L s' H' ∧ b1B s' < b1B (T7, a5Z, D7)) ∧ a2v x0 T7 a5Z D7 H n3 K := ⟨_, fun _ _ h => h, d7X (T7, a5Z, D7) H (fun s' H' => b8L s' H' ∧ b1B s' < b1B (T7, a5Z, D7)) d7Y (fun _ _ a b => ⟨a, b⟩)⟩
  unfold f0j
  unfold a2v at h
  refine a7 a4J ?_
  refine f2 (ld1 Tryz.isAgg23 ((I.bring 2).at1 (o := 1) (vs := [(vs x0.G3)]) (nb rfl) rfl)) ?_
  refine a7 (W8 _ _ _) ?_
  refine a7 (v7 _ _ _ _ _ _) ?_
  refine a7 (Pu.g fun hb => by have d7 := hb; exact a0k) ?_
  refine f2 (Ld.g fun hb => by have d7 := hb; simp only [i6 d7]; exact (ld1 Tryz.isAgg3 (I.at1 (o := 2) (vs := [(vi a5Z.fbad)]) (nb rfl) rfl))) ?_
  refine a7 (Pu.g fun hb => by have d7 := hb; simp only [i6 d7]; exact (k7 _ _ _ _ _ _)) ?_
  refine a7 (w8 _ _) ?_
  refine o2 (fun a8d => ?_) (fun a8d => ?_)
  ·replace h := h.1 a8d
   refine a7 a4J ?_
   refine f2 (ld1 Tryz.isAgg23 ((I.bring 2).at1 (o := 1) (vs := [(vs x0.G3)]) (nb rfl) rfl)) ?_
   obtain ⟨b8M, d7Z, c3c, c3f, h⟩ := h
   obtain ⟨j2d, j2e, d8a, c3f⟩ := c3f
   refine a7 (a6W d8a _ _ _ _ b8M d7Z) ?_
   refine f2 (ldA (vs := (d9 c3c)) Tryz.isAgg73 Tryz.sizeOf73 rfl (I.atH c3f)) ?_
   refine f7 (cap := []) (fun args w => Tryz.call85 args w) ?_
   refine k8 (Fi := [bx a7v 108 (i7 a5Z)]) (Fr := [bx g_7 108 (i7 D7), bx g_2 25 (i5 x0)]) I (h a7v) (fun j2f c8R f3J Q3 d3u c8S h4A f3K => ?_) (fun _ _ _ _ _ q => q.elim)
   obtain ⟨c3d, rfl, rfl, h⟩ := f3K
   refine a7 (u7 _ _ _ _ _ _) ?_
   exact hn3 _ _ _ (hm3 _ _ h).2 ⟨((IntKind.wrap .i64 (T7 + 1)), c3d, D7), c8R, rfl, rfl, (((d3u.bring 2).bring 2).bring 2), (hm3 _ _ h).1⟩
  ·replace h := h.2 a8d
   exact hx2 _ _ (hj2 a5Z D7 H _ (((I.bring 2).bring 2).bring 2) h)
 refine r9 fun j1 hx1 => ?_
 obtain ⟨e4A, d0V, i6b, i6c⟩ := h
 refine A7 (J := fun n l w => ∃ (s : Int × d5 × d5) (H : Hp) , n = d0V s ∧ l = (match s with | (V1, a6a, I1) => [(vi V1)]) ∧ (match s with | (V1, a6a, I1) => Inv w0 ps0 H0 H [bx a7v 108 (i7 a6a), bx g_7 108 (i7 I1), bx g_2 25 (i5 x0)] w) ∧ e4A s H) ⟨_, (0, (d5.mk 0 0 0), (d5.mk 0 0 0)), H, rfl, rfl, (((b0q.bring 2).bring 2).bring 2), i6b⟩ ?_
 rintro j6g τ_105 w next4 ⟨⟨V1, a6a, I1⟩, H, rfl, e4B, I, i6d⟩ hn4
 dsimp only at e4B I
 simp only [List.map_cons, List.map_nil, List.cons.injEq, and_true] at e4B
 have e4 := e4B
 simp only [e4]
 obtain ⟨n4, hm4, h⟩ : ∃ n4 : (Int × d5 × d5) → Hp → Prop, (∀ s' H', n4 s' H' → e4A s' H' ∧ d0V s' < d0V (V1, a6a, I1)) ∧ a2x x0 V1 a6a I1 H n4 K := ⟨_, fun _ _ h => h, i6c (V1, a6a, I1) H (fun s' H' => e4A s' H' ∧ d0V s' < d0V (V1, a6a, I1)) i6d (fun _ _ a b => ⟨a, b⟩)⟩
 unfold f0k
 unfold a2x at h
 refine a7 Z1 ?_
 refine f2 (ld1 Tryz.isAgg22 ((I.bring 2).at1 (o := 0) (vs := [(vs x0.r5)]) (nb rfl) rfl)) ?_
 refine a7 (a9V _ _ _) ?_
 refine a7 (v7 _ _ _ _ _ _) ?_
 refine a7 (Pu.g fun hb => by have d7 := hb; exact a0k) ?_
 refine f2 (Ld.g fun hb => by have d7 := hb; simp only [i6 d7]; exact (ld1 Tryz.isAgg3 (I.at1 (o := 2) (vs := [(vi a6a.fbad)]) (nb rfl) rfl))) ?_
 refine a7 (Pu.g fun hb => by have d7 := hb; simp only [i6 d7]; exact (k7 _ _ _ _ _ _)) ?_
 refine a7 (w8 _ _) ?_
 refine o2 (fun f3L => ?_) (fun f3L => ?_)
 ·replace h := h.1 f3L
  refine f7 (cap := []) (fun args w => Tryz.call84 args w) ?_
  refine k8 (Fi := [bx a7v 108 (i7 a6a)]) (Fr := [bx g_7 108 (i7 I1), bx g_2 25 (i5 x0)]) I (h a7v) (fun j2g c3e j2h c3g f3M f3x j2i f3N => ?_) (fun _ _ _ _ _ q => q.elim)
  obtain ⟨c0w, e4z, rfl, rfl, h⟩ := f3N
  refine a7 (u7 _ _ _ _ _ _) ?_
  exact hn4 _ _ _ (hm4 _ _ h).2 ⟨((IntKind.wrap .i64 (V1 + 1)), e4z, I1), c3e, rfl, rfl, (((f3M.bring 2).bring 2).bring 2), (hm4 _ _ h).1⟩
 ·replace h := h.2 f3L
  exact hx1 _ _ (hj1 a6a I1 H _ (((I.bring 2).bring 2).bring 2) h)
theorem b6W (x0 : g7) {H : Hp} {K : d5 → Hp → Prop} (h : a3T x0 H K) : a3S x0 H K := by
 intro w I
 refine g8G ?_
 refine b6y x0 I (fun r0 H' w' I' hk => ⟨H', _, I', r0, rfl, rfl, hk⟩) h
def a0I (j9M : Sl) (j2j : Sl) (j2k : Int) (H : Hp) (n2 : Int → Hp → Prop) (K : Bool → Hp → Prop) : Prop :=
 n2 (IntKind.wrap .i64 (j2k + 1)) H
def a0J (j2l : Sl) (j2m : Sl) (j2n : Int) (e2G : d6) (c6W : d6) (b3i : Int) (H : Hp) (n2 : Int → Hp → Prop) (n6 : Int → Hp → Prop) (K : Bool → Hp → Prop) : Prop :=
 (b3i < (c6W.f5.n : Int) →
 (0 : Int) ≤ b3i ∧ (b3i : Int) < c6W.f5.n ∧ ∃ e4C : a8, EltH H c6W.f5 b3i 4 (b8 e4C) ∧
 (0 : Int) ≤ b3i ∧ (b3i : Int) < e2G.f5.n ∧ ∃ e4D : a8, EltH H e2G.f5 b3i 4 (b8 e4D) ∧
 a0e e4C e4D H (fun (c5G : Bool) (c8T : Hp) =>
 ((!c5G) = true →
 K false c8T) ∧
 ((!c5G) = false →
 n6 (IntKind.wrap .i64 (b3i + 1)) c8T))) ∧
 (¬ (b3i < (c6W.f5.n : Int)) →
 a0I j2l j2m j2n H n2 K)
def a0K (h4B : Sl) (j2o : Sl) (j2p : Int) (g2z : d6) (g2A : d6) (H : Hp) (n2 : Int → Hp → Prop) (K : Bool → Hp → Prop) : Prop :=
 TL (0 : Int) H fun (s : Int) H n6 => a0J h4B j2o j2p g2z g2A s H n2 n6 K
def Q5 (j2q : Sl) (j2r : Sl) (j2s : Int) (d3v : d6) (c1S : d6) (b3j : Int) (H : Hp) (n2 : Int → Hp → Prop) (n7 : Int → Hp → Prop) (K : Bool → Hp → Prop) : Prop :=
 (b3j < (c1S.i4.n : Int) →
 (0 : Int) ≤ b3j ∧ (b3j : Int) < c1S.i4.n ∧ ∃ c3h : b7, EltH H c1S.i4 b3j 4 (d8 c3h) ∧
 (0 : Int) ≤ b3j ∧ (b3j : Int) < d3v.i4.n ∧ ∃ e4E : b7, EltH H d3v.i4 b3j 4 (d8 e4E) ∧
 a3g c3h e4E H (fun (e4F : Bool) (d8b : Hp) =>
 ((!e4F) = true →
 K false d8b) ∧
 ((!e4F) = false →
 n7 (IntKind.wrap .i64 (b3j + 1)) d8b))) ∧
 (¬ (b3j < (c1S.i4.n : Int)) →
 a0K j2q j2r j2s d3v c1S H n2 K)
def U2 (j2t : Sl) (f3O : Sl) (j2u : Int) (u1 : d6) (t6 : d6) (H : Hp) (n2 : Int → Hp → Prop) (K : Bool → Hp → Prop) : Prop :=
 TG (((((!decide (t6.b6 = u1.b6)) || (!decide (t6.f6 = u1.f6))) || (!decide ((t6.i4.n : Int) = (u1.i4.n : Int)))) || (!decide ((t6.f5.n : Int) = (u1.f5.n : Int)))) = false) (M3 t6.A5 u1.A5 H) false H (fun (b1d : Bool) (a7w : Hp) =>
 TG ((((((!decide (t6.b6 = u1.b6)) || (!decide (t6.f6 = u1.f6))) || (!decide ((t6.i4.n : Int) = (u1.i4.n : Int)))) || (!decide ((t6.f5.n : Int) = (u1.f5.n : Int)))) || (!b1d)) = false) (M3 t6.z6 u1.z6 a7w) false a7w (fun (b2T : Bool) (b3k : Hp) =>
 (((((((!decide (t6.b6 = u1.b6)) || (!decide (t6.f6 = u1.f6))) || (!decide ((t6.i4.n : Int) = (u1.i4.n : Int)))) || (!decide ((t6.f5.n : Int) = (u1.f5.n : Int)))) || (!b1d)) || (!b2T)) = true →
 K false b3k) ∧
 (((((((!decide (t6.b6 = u1.b6)) || (!decide (t6.f6 = u1.f6))) || (!decide ((t6.i4.n : Int) = (u1.i4.n : Int)))) || (!decide ((t6.f5.n : Int) = (u1.f5.n : Int)))) || (!b1d)) || (!b2T)) = false →
 TL (0 : Int) b3k fun (s : Int) H n7 => Q5 j2t f3O j2u u1 t6 s H n2 n7 K)))
def a0L (H : Hp) (K : Bool → Hp → Prop) : Prop :=
 K true H
def a0M (b6X : Sl) (a9R : Sl) (I5 : Int) (H : Hp) (n2 : Int → Hp → Prop) (K : Bool → Hp → Prop) : Prop :=
 (I5 < (b6X.n : Int) →
 (0 : Int) ≤ I5 ∧ (I5 : Int) < b6X.n ∧ ∃ x_3 : d6, EltH H b6X I5 6 (d9 x_3) ∧
 (0 : Int) ≤ I5 ∧ (I5 : Int) < a9R.n ∧ ∃ c1a : d6, EltH H a9R I5 6 (d9 c1a) ∧
 U2 b6X a9R I5 c1a x_3 H n2 K) ∧
 (¬ (I5 < (b6X.n : Int)) →
 a0L H K)
def a2y (x0 : Sl) (x1 : Sl) (H : Hp) (K : Bool → Hp → Prop) : Prop :=
 (¬ ((x0.n : Int) = (x1.n : Int)) →
 K false H) ∧
 ((x0.n : Int) = (x1.n : Int) →
 TL (0 : Int) H fun (s : Int) H n2 => a0M x0 x1 s H n2 K)
theorem b4w (x0 : Sl) (x1 : Sl) {K : Bool → Hp → Prop} (I : Inv w0 ps0 H0 H [] w) (hR : ∀ (r0 : Bool) (H' : Hp) (w' : World) (_ : Inv w0 ps0 H0 H' [] w') (_ : K r0 H'), R (vB r0) w') (h : a2y x0 x1 H K) : F30 (vs x0) (vs x1) w R E := by
 unfold a2y at h
 unfold F30
 refine a7 (W8 _ _ _) ?_
 refine a7 (W8 _ _ _) ?_
 refine a7 (P9 _ _ _ _ _ _) ?_
 refine a5o (fun e4G => ?_) (fun e4G => ?_)
 ·replace h := h.1 e4G
  exact hR false H _ I h
 ·replace h := h.2 e4G
  have hj1 : ∀ (H : Hp) (w : World) (_ : Inv w0 ps0 H0 H [] w) (_ : a0L H K), d6i w R E := by
   intro H w I h
   unfold d6i
   intro _
   unfold a0L at h
   exact hR true H _ I h
  refine r9 fun j1 hx1 => ?_
  obtain ⟨e4H, d0W, i6e, i6f⟩ := h
  refine A7 (J := fun n l w => ∃ (s : Int) (H : Hp) , n = d0W s ∧ l = [(vi s)] ∧ Inv w0 ps0 H0 H [] w ∧ e4H s H) ⟨_, 0, H, rfl, rfl, I, i6e⟩ ?_
  rintro j6h τ_146 w next2 ⟨I5, H, rfl, f7T, I, i6g⟩ hn2
  simp only [List.map_cons, List.map_nil, List.cons.injEq, and_true] at f7T
  have e5 := f7T
  simp only [e5]
  obtain ⟨n2, hm2, h⟩ : ∃ n2 : Int → Hp → Prop, (∀ s' H', n2 s' H' → e4H s' H' ∧ d0W s' < d0W I5) ∧ a0M x0 x1 I5 H n2 K := ⟨_, fun _ _ h => h, i6f I5 H (fun s' H' => e4H s' H' ∧ d0W s' < d0W I5) i6g (fun _ _ a b => ⟨a, b⟩)⟩
  unfold f0e
  unfold a0M at h
  refine a7 (W8 _ _ _) ?_
  refine a7 (v7 _ _ _ _ _ _) ?_
  refine k4 (fun c3i => ?_) (fun c3i => ?_)
  ·replace h := h.1 c3i
   have hj3 : ∀ (H : Hp) (w : World) (_ : Inv w0 ps0 H0 H [] w) (_ : a0I x0 x1 I5 H n2 K), d6j (vs x0) (vs x1) (vi I5) w next2 R E := by
    intro H w I h
    unfold d6j
    intro _
    unfold a0I at h
    refine a7 (u7 _ _ _ _ _ _) ?_
    exact hn2 _ _ _ (hm2 _ _ h).2 ⟨(IntKind.wrap .i64 (I5 + 1)), H, rfl, rfl, I, (hm2 _ _ h).1⟩
   refine r9 fun j3 hx3 => ?_
   have hj4 : ∀ (u1 : d6) (t6 : d6) (a6b : Nat) (a6c : Nat) (H : Hp) (w : World) (_ : Inv w0 ps0 H0 H [bx a6b 73 (d9 u1), bx a6c 73 (d9 t6)] w) (_ : U2 x0 x1 I5 u1 t6 H n2 K), d6p (vs x0) (vs x1) (vi I5) (Value.pointer (some ⟨a6c, 0, none⟩)) (Value.pointer (some ⟨a6b, 0, none⟩)) w j3 R E := by
    intro u1 t6 a6b a6c H w I h
    unfold d6p
    intro _
    unfold U2 at h
    refine a7 a0F ?_
    refine f2 (ld1 Tryz.isAgg3 ((I.bring 1).at1 (o := 0) (vs := [(vi t6.b6)]) (nb rfl) rfl)) ?_
    refine a7 a0F ?_
    refine f2 (ld1 Tryz.isAgg3 (I.at1 (o := 0) (vs := [(vi u1.b6)]) (nb rfl) rfl)) ?_
    refine a7 (P9 _ _ _ _ _ _) ?_
    refine a7 (Pu.g fun hb => by have d7 := hb; exact a8J) ?_
    refine f2 (Ld.g fun hb => by have d7 := hb; simp only [i6 d7]; exact (ld1 Tryz.isAgg9 ((I.bring 1).at1 (o := 1) (vs := [(Value.string t6.f6)]) (nb rfl) rfl))) ?_
    refine a7 (Pu.g fun hb => by have d7 := hb; exact a8J) ?_
    refine f2 (Ld.g fun hb => by have d7 := hb; simp only [i6 d7]; exact (ld1 Tryz.isAgg9 (I.at1 (o := 1) (vs := [(Value.string u1.f6)]) (nb rfl) rfl))) ?_
    refine a7 (Pu.g fun hb => by have d7 := hb; simp only [i6 d7]; exact (d5P _ _ _ _ _)) ?_
    refine a7 (M4 _ _) ?_
    refine a7 (Pu.g fun hb => by have d7 := hb; exact R7) ?_
    refine f2 (Ld.g fun hb => by have d7 := hb; simp only [i6 d7]; exact (ld1 Tryz.isAgg57 ((I.bring 1).at1 (o := 3) (vs := [(vs t6.i4)]) (nb rfl) rfl))) ?_
    refine a7 (Pu.g fun hb => by have d7 := hb; simp only [i6 d7]; exact (V0 _ _ _)) ?_
    refine a7 (Pu.g fun hb => by have d7 := hb; exact R7) ?_
    refine f2 (Ld.g fun hb => by have d7 := hb; simp only [i6 d7]; exact (ld1 Tryz.isAgg57 (I.at1 (o := 3) (vs := [(vs u1.i4)]) (nb rfl) rfl))) ?_
    refine a7 (Pu.g fun hb => by have d7 := hb; simp only [i6 d7]; exact (V0 _ _ _)) ?_
    refine a7 (Pu.g fun hb => by have d7 := hb; simp only [i6 d7]; exact (P9 _ _ _ _ _ _)) ?_
    refine a7 (M4 _ _) ?_
    refine a7 (Pu.g fun hb => by have d7 := hb; exact S9) ?_
    refine f2 (Ld.g fun hb => by have d7 := hb; simp only [i6 d7]; exact (ld1 Tryz.isAgg51 ((I.bring 1).at1 (o := 2) (vs := [(vs t6.f5)]) (nb rfl) rfl))) ?_
    refine a7 (Pu.g fun hb => by have d7 := hb; simp only [i6 d7]; exact (K0 _ _ _)) ?_
    refine a7 (Pu.g fun hb => by have d7 := hb; exact S9) ?_
    refine f2 (Ld.g fun hb => by have d7 := hb; simp only [i6 d7]; exact (ld1 Tryz.isAgg51 (I.at1 (o := 2) (vs := [(vs u1.f5)]) (nb rfl) rfl))) ?_
    refine a7 (Pu.g fun hb => by have d7 := hb; simp only [i6 d7]; exact (K0 _ _ _)) ?_
    refine a7 (Pu.g fun hb => by have d7 := hb; simp only [i6 d7]; exact (P9 _ _ _ _ _ _)) ?_
    refine a7 (M4 _ _) ?_
    refine a7 (Pu.g fun hb => by have d7 := hb; exact U6) ?_
    refine f2 (Ld.g fun hb => by have d7 := hb; simp only [i6 d7]; exact (ld1 Tryz.isAgg23 ((I.bring 1).at1 (o := 4) (vs := [(vs t6.A5)]) (nb rfl) rfl))) ?_
    refine a7 (Pu.g fun hb => by have d7 := hb; exact U6) ?_
    refine f2 (Ld.g fun hb => by have d7 := hb; simp only [i6 d7]; exact (ld1 Tryz.isAgg23 (I.at1 (o := 4) (vs := [(vs u1.A5)]) (nb rfl) rfl))) ?_
    refine a4I (D := fun f3P A6 => ∃ (b1d : Bool) (a7w : Hp) , f3P = (gv ((((!decide (t6.b6 = u1.b6)) || (!decide (t6.f6 = u1.f6))) || (!decide ((t6.i4.n : Int) = (u1.i4.n : Int)))) || (!decide ((t6.f5.n : Int) = (u1.f5.n : Int)))) false (vB b1d)) ∧ (Inv w0 ps0 H0 a7w [bx a6b 73 (d9 u1), bx a6c 73 (d9 t6)] A6) ∧ (∀ i, i < w.heap.size → ¬ inF [] i → A6.heap[i]? = w.heap[i]?) ∧ Hle H a7w ∧ (TG ((((((!decide (t6.b6 = u1.b6)) || (!decide (t6.f6 = u1.f6))) || (!decide ((t6.i4.n : Int) = (u1.i4.n : Int)))) || (!decide ((t6.f5.n : Int) = (u1.f5.n : Int)))) || (!b1d)) = false) (M3 t6.z6 u1.z6 a7w) false a7w (fun (b2T : Bool) (b3k : Hp) =>
 (((((((!decide (t6.b6 = u1.b6)) || (!decide (t6.f6 = u1.f6))) || (!decide ((t6.i4.n : Int) = (u1.i4.n : Int)))) || (!decide ((t6.f5.n : Int) = (u1.f5.n : Int)))) || (!b1d)) || (!b2T)) = true →
 K false b3k) ∧
 (((((((!decide (t6.b6 = u1.b6)) || (!decide (t6.f6 = u1.f6))) || (!decide ((t6.i4.n : Int) = (u1.i4.n : Int)))) || (!decide ((t6.f5.n : Int) = (u1.f5.n : Int)))) || (!b1d)) || (!b2T)) = false →
 TL (0 : Int) b3k fun (s : Int) H n7 => Q5 x0 x1 I5 u1 t6 s H n2 n7 K)))) (fun d0X => ?_) (fun d0X => ?_) ?_
    ·replace h := h.1 d0X
     have d7 := d0X
     simp only [i6 d7]
     refine f7 (cap := []) (fun args w => Tryz.call30 args w) ?_
     refine k8 (Fi := []) (Fr := [bx a6b 73 (d9 u1), bx a6c 73 (d9 t6)]) I (h) (fun f3P a7w j9N A6 a4Y c8U c1b j2v => ?_) (fun _ _ _ _ _ q => q.elim)
     obtain ⟨b1d, rfl, rfl, h⟩ := j2v
     exact ⟨b1d, a7w, by rfl, a4Y, c1b, c8U, h⟩
    ·exact ⟨false, H, by rw [a9I d0X], I, fun _ _ _ => rfl, Hle.refl _, h.2 d0X⟩
    ·clear h
     rintro f3P A6 ⟨b1d, a7w, rfl, a4Y, c1b, c8U, h⟩
     refine a7 (Pu.g fun hb => by have d7 := hb; simp only [i6 d7]; exact (T4 _)) ?_
     refine a7 (M4 _ _) ?_
     refine a7 (Pu.g fun hb => by have d7 := hb; exact Z2) ?_
     refine f2 (Ld.g fun hb => by have d7 := hb; simp only [i6 d7]; exact (ld1 Tryz.isAgg23 ((a4Y.bring 1).at1 (o := 5) (vs := [(vs t6.z6)]) (nb rfl) rfl))) ?_
     refine a7 (Pu.g fun hb => by have d7 := hb; exact Z2) ?_
     refine f2 (Ld.g fun hb => by have d7 := hb; simp only [i6 d7]; exact (ld1 Tryz.isAgg23 (a4Y.at1 (o := 5) (vs := [(vs u1.z6)]) (nb rfl) rfl))) ?_
     refine a4I (D := fun f3Q b5x => ∃ (b2T : Bool) (b3k : Hp) , f3Q = (gv (((((!decide (t6.b6 = u1.b6)) || (!decide (t6.f6 = u1.f6))) || (!decide ((t6.i4.n : Int) = (u1.i4.n : Int)))) || (!decide ((t6.f5.n : Int) = (u1.f5.n : Int)))) || (!b1d)) false (vB b2T)) ∧ (Inv w0 ps0 H0 b3k [bx a6b 73 (d9 u1), bx a6c 73 (d9 t6)] b5x) ∧ (∀ i, i < A6.heap.size → ¬ inF [] i → b5x.heap[i]? = A6.heap[i]?) ∧ Hle a7w b3k ∧ ((((((((!decide (t6.b6 = u1.b6)) || (!decide (t6.f6 = u1.f6))) || (!decide ((t6.i4.n : Int) = (u1.i4.n : Int)))) || (!decide ((t6.f5.n : Int) = (u1.f5.n : Int)))) || (!b1d)) || (!b2T)) = true →
 K false b3k) ∧
 (((((((!decide (t6.b6 = u1.b6)) || (!decide (t6.f6 = u1.f6))) || (!decide ((t6.i4.n : Int) = (u1.i4.n : Int)))) || (!decide ((t6.f5.n : Int) = (u1.f5.n : Int)))) || (!b1d)) || (!b2T)) = false →
 TL (0 : Int) b3k fun (s : Int) H n7 => Q5 x0 x1 I5 u1 t6 s H n2 n7 K))) (fun d0Y => ?_) (fun d0Y => ?_) ?_
     ·replace h := h.1 d0Y
      have d7 := d0Y
      simp only [i6 d7]
      refine f7 (cap := []) (fun args w => Tryz.call30 args w) ?_
      refine k8 (Fi := []) (Fr := [bx a6b 73 (d9 u1), bx a6c 73 (d9 t6)]) a4Y (h) (fun f3Q b3k j9O b5x b6Y h4C d8c j2w => ?_) (fun _ _ _ _ _ q => q.elim)
      obtain ⟨b2T, rfl, rfl, h⟩ := j2w
      exact ⟨b2T, b3k, by rfl, b6Y, d8c, h4C, h⟩
     ·exact ⟨false, a7w, by rw [a9I d0Y], a4Y, fun _ _ _ => rfl, Hle.refl _, h.2 d0Y⟩
     ·clear h
      rintro f3Q b5x ⟨b2T, b3k, rfl, b6Y, d8c, h4C, h⟩
      refine a7 (Pu.g fun hb => by have d7 := hb; simp only [i6 d7]; exact (T4 _)) ?_
      refine a7 (M4 _ _) ?_
      refine o2 (fun b4x => ?_) (fun b4x => ?_)
      ·replace h := h.1 b4x
       exact hR false b3k _ b6Y.drop.drop h
      ·replace h := h.2 b4x
       have hj5 : ∀ (H : Hp) (w : World) (_ : Inv w0 ps0 H0 H [bx a6b 73 (d9 u1), bx a6c 73 (d9 t6)] w) (_ : a0K x0 x1 I5 u1 t6 H n2 K), d6o (vs x0) (vs x1) (vi I5) (Value.pointer (some ⟨a6c, 0, none⟩)) (Value.pointer (some ⟨a6b, 0, none⟩)) w j3 R E := by
        intro H w I h
        unfold d6o
        intro _
        unfold a0K at h
        obtain ⟨e4I, d0Z, i6h, i6i⟩ := h
        refine A7 (J := fun n l w => ∃ (s : Int) (H : Hp) , n = d0Z s ∧ l = [(vi s)] ∧ Inv w0 ps0 H0 H [bx a6b 73 (d9 u1), bx a6c 73 (d9 t6)] w ∧ e4I s H) ⟨_, 0, H, rfl, rfl, ((I.bring 1).bring 1), i6h⟩ ?_
        rintro j6i τ_109 w next6 ⟨b3i, H, rfl, f7U, I, i6j⟩ hn6
        simp only [List.map_cons, List.map_nil, List.cons.injEq, and_true] at f7U
        have e9 := f7U
        simp only [e9]
        obtain ⟨n6, hm6, h⟩ : ∃ n6 : Int → Hp → Prop, (∀ s' H', n6 s' H' → e4I s' H' ∧ d0Z s' < d0Z b3i) ∧ a0J x0 x1 I5 u1 t6 b3i H n2 n6 K := ⟨_, fun _ _ h => h, i6i b3i H (fun s' H' => e4I s' H' ∧ d0Z s' < d0Z b3i) i6j (fun _ _ a b => ⟨a, b⟩)⟩
        unfold f0c
        unfold a0J at h
        refine a7 S9 ?_
        refine f2 (ld1 Tryz.isAgg51 ((I.bring 1).at1 (o := 2) (vs := [(vs t6.f5)]) (nb rfl) rfl)) ?_
        refine a7 (K0 _ _ _) ?_
        refine a7 (v7 _ _ _ _ _ _) ?_
        refine k4 (fun e4J => ?_) (fun e4J => ?_)
        ·replace h := h.1 e4J
         refine a3D I fun c1c d8d => ?_
         refine o7 S9 ?_
         refine o7 S9 ?_
         refine y9 (ld1 Tryz.isAgg51 ((d8d.bring 1).at1 (o := 2) (vs := [(vs t6.f5)]) (nb rfl) rfl)) ?_
         obtain ⟨f3R, j2x, e4C, d8e, h⟩ := h
         obtain ⟨j9P, j9Q, f3S, d8e⟩ := d8e
         refine o7 (G7 f3S _ _ _ _ f3R j2x) ?_
         refine y9 (ldA (vs := (b8 e4C)) Tryz.isAgg53 Tryz.sizeOf53 rfl (d8d.atH d8e)) ?_
         refine y9 (ld1 Tryz.isAgg51 (d8d.at1 (o := 2) (vs := [(vs u1.f5)]) (nb rfl) rfl)) ?_
         obtain ⟨d8f, d8g, e4D, c5H, h⟩ := h
         obtain ⟨j9R, j9S, d3w, c5H⟩ := c5H
         refine o7 (G7 d3w _ _ _ _ d8f d8g) ?_
         refine y9 (ldA (vs := (b8 e4D)) Tryz.isAgg53 Tryz.sizeOf53 rfl (d8d.atH c5H)) ?_
         refine f7 (cap := []) (fun args w => Tryz.call53 args w) ?_
         refine k8 (Fi := []) (Fr := [bx a6b 73 (d9 u1), bx a6c 73 (d9 t6)]) d8d (h) (fun j2y c8T j2z a1U e4K i6k j2A f3T => ?_) (fun _ _ _ _ _ q => q.elim)
         obtain ⟨c5G, rfl, rfl, h⟩ := f3T
         refine o7 (T4 _) ?_
         refine o2 (fun e4L => ?_) (fun e4L => ?_)
         ·replace h := h.1 e4L
          exact hR false c8T _ e4K.drop.drop h
         ·replace h := h.2 e4L
          refine a7 (u7 _ _ _ _ _ _) ?_
          exact hn6 _ _ _ (hm6 _ _ h).2 ⟨(IntKind.wrap .i64 (b3i + 1)), c8T, rfl, rfl, ((e4K.bring 1).bring 1), (hm6 _ _ h).1⟩
        ·replace h := h.2 e4J
         exact hx3 _ _ (hj3 H _ I.drop.drop h)
       refine r9 fun j5 hx5 => ?_
       obtain ⟨e4M, d1a, i6l, i6m⟩ := h
       refine A7 (J := fun n l w => ∃ (s : Int) (H : Hp) , n = d1a s ∧ l = [(vi s)] ∧ Inv w0 ps0 H0 H [bx a6b 73 (d9 u1), bx a6c 73 (d9 t6)] w ∧ e4M s H) ⟨_, 0, b3k, rfl, rfl, ((b6Y.bring 1).bring 1), i6l⟩ ?_
       rintro j6j τ_118 w next7 ⟨b3j, H, rfl, f7V, I, i6n⟩ hn7
       simp only [List.map_cons, List.map_nil, List.cons.injEq, and_true] at f7V
       have e8 := f7V
       simp only [e8]
       obtain ⟨n7, hm7, h⟩ : ∃ n7 : Int → Hp → Prop, (∀ s' H', n7 s' H' → e4M s' H' ∧ d1a s' < d1a b3j) ∧ Q5 x0 x1 I5 u1 t6 b3j H n2 n7 K := ⟨_, fun _ _ h => h, i6m b3j H (fun s' H' => e4M s' H' ∧ d1a s' < d1a b3j) i6n (fun _ _ a b => ⟨a, b⟩)⟩
       unfold f0d
       unfold Q5 at h
       refine a7 R7 ?_
       refine f2 (ld1 Tryz.isAgg57 ((I.bring 1).at1 (o := 3) (vs := [(vs t6.i4)]) (nb rfl) rfl)) ?_
       refine a7 (V0 _ _ _) ?_
       refine a7 (v7 _ _ _ _ _ _) ?_
       refine k4 (fun e4N => ?_) (fun e4N => ?_)
       ·replace h := h.1 e4N
        refine a3D I fun b4f c3j => ?_
        refine o7 R7 ?_
        refine o7 R7 ?_
        refine y9 (ld1 Tryz.isAgg57 ((c3j.bring 1).at1 (o := 3) (vs := [(vs t6.i4)]) (nb rfl) rfl)) ?_
        obtain ⟨b8N, f3U, c3h, b8M, h⟩ := h
        obtain ⟨f3V, j2B, f3W, b8M⟩ := b8M
        refine o7 (a1T f3W _ _ _ _ b8N f3U) ?_
        refine y9 (ldA (vs := (d8 c3h)) Tryz.isAgg59 Tryz.sizeOf59 rfl (c3j.atH b8M)) ?_
        refine y9 (ld1 Tryz.isAgg57 (c3j.at1 (o := 3) (vs := [(vs u1.i4)]) (nb rfl) rfl)) ?_
        obtain ⟨j2C, d8h, e4E, d3x, h⟩ := h
        obtain ⟨h4D, j9T, c5I, d3x⟩ := d3x
        refine o7 (a1T c5I _ _ _ _ j2C d8h) ?_
        refine y9 (ldA (vs := (d8 e4E)) Tryz.isAgg59 Tryz.sizeOf59 rfl (c3j.atH d3x)) ?_
        refine f7 (cap := []) (fun args w => Tryz.call52 args w) ?_
        refine k8 (Fi := []) (Fr := [bx a6b 73 (d9 u1), bx a6c 73 (d9 t6)]) c3j (h) (fun j9U d8b j9V Z9 d3y h4E h4F j2D => ?_) (fun _ _ _ _ _ q => q.elim)
        obtain ⟨e4F, rfl, rfl, h⟩ := j2D
        refine o7 (T4 _) ?_
        refine o2 (fun b8O => ?_) (fun b8O => ?_)
        ·replace h := h.1 b8O
         exact hR false d8b _ d3y.drop.drop h
        ·replace h := h.2 b8O
         refine a7 (u7 _ _ _ _ _ _) ?_
         exact hn7 _ _ _ (hm7 _ _ h).2 ⟨(IntKind.wrap .i64 (b3j + 1)), d8b, rfl, rfl, ((d3y.bring 1).bring 1), (hm7 _ _ h).1⟩
       ·replace h := h.2 e4N
        exact hx5 _ _ (hj5 H _ ((I.bring 1).bring 1) h)
   refine r9 fun j4 hx4 => ?_
   refine a3D I fun w_1 I_2 => ?_
   obtain ⟨h_6, h_7, x_3, h_9, h⟩ := h
   obtain ⟨g_4, o_5, h_8, h_9⟩ := h_9
   refine o7 (a6W h_8 _ _ _ _ h_6 h_7) ?_
   obtain ⟨j2E, f3X, c1a, a8e, h⟩ := h
   obtain ⟨j9W, j9X, j2F, a8e⟩ := a8e
   refine o7 (a6W j2F _ _ _ _ j2E f3X) ?_
   refine y9 (ldA (vs := (d9 x_3)) Tryz.isAgg73 Tryz.sizeOf73 rfl (I_2.atH h_9)) ?_
   refine y9 (ldA (vs := (d9 c1a)) Tryz.isAgg73 Tryz.sizeOf73 rfl (I_2.atH a8e)) ?_
   refine ⟨?_, ?_⟩
   ·refine z8 I_2 Tryz.zeroValue73 (cs := [(vi 0), (eS), (nS), (nS), (nS), (nS)]) rfl fun j2G X1 b0Y c3k => ?_
    refine ⟨(c3k _ (I_2.a7f a8e)), (c3k _ (I_2.a7f h_9)), ?_⟩
    refine z8 b0Y Tryz.zeroValue73 (cs := [(vi 0), (eS), (nS), (nS), (nS), (nS)]) rfl fun h4G v2 a8f c8V => ?_
    refine ⟨(c8V _ (b0Y.a7f a8e)), (c8V _ (b0Y.a7f h_9)), ?_⟩
    refine m5 (a8f.bring 1) Tryz.sizeOf73 (vs := (d9 x_3)) (cs' := (d9 x_3)) rfl rfl (nb rfl) rfl rfl fun a5U c5J f3Y => ?_
    refine ⟨(f3Y _ (Inv.e3B (a8f.bring 1) a8e)), ?_⟩
    refine m5 (c5J.bring 1) Tryz.sizeOf73 (vs := (d9 c1a)) (cs' := (d9 c1a)) rfl rfl (nb rfl) rfl rfl fun C0 b4u c8O => ?_
    exact hx4 _ _ (hj4 c1a x_3 h4G j2G H _ ((b4u.bring 1).bring 1) h)
   ·refine z8 I_2 Tryz.zeroValue73 (cs := [(vi 0), (eS), (nS), (nS), (nS), (nS)]) rfl fun i6o a8L e4O f7W => ?_
    refine ⟨(f7W _ (I_2.a7f a8e)), (f7W _ (I_2.a7f h_9)), ?_⟩
    refine z8 e4O Tryz.zeroValue73 (cs := [(vi 0), (eS), (nS), (nS), (nS), (nS)]) rfl fun i6p d1b d4Q e4P => ?_
    refine ⟨(e4P _ (e4O.a7f a8e)), (e4P _ (e4O.a7f h_9)), ?_⟩
    refine m5 d4Q Tryz.sizeOf73 (vs := (d9 x_3)) (cs' := (d9 x_3)) rfl rfl (nb rfl) rfl rfl fun a9t e4Q f7X => ?_
    refine ⟨(f7X _ (Inv.e3B d4Q a8e)), ?_⟩
    refine m5 (e4Q.bring 1) Tryz.sizeOf73 (vs := (d9 c1a)) (cs' := (d9 c1a)) rfl rfl (nb rfl) rfl rfl fun j6k i6q j6l => ?_
    exact hx4 _ _ (hj4 c1a x_3 i6o i6p H _ ((i6q.bring 1).bring 1) h)
  ·replace h := h.2 c3i
   exact hx1 _ _ (hj1 H _ I h)
theorem b5d (x0 : Sl) (x1 : Sl) {H : Hp} {K : Bool → Hp → Prop} (h : a2y x0 x1 H K) : M3 x0 x1 H K := by
 intro w I
 refine g8k ?_
 refine b4w x0 x1 I (fun r0 H' w' I' hk => ⟨H', _, I', r0, rfl, rfl, hk⟩) h
def a4Z (x0 : O3) (H : Hp) (K : Sl → Hp → Prop) : Prop :=
 C5 x0.t7.k9 H (fun (E1 : Sl) (H_6 : Hp) =>
 K E1 H_6)
theorem b7z (x0 : O3) {K : Sl → Hp → Prop} (I : Inv w0 ps0 H0 H [] w) (hR : ∀ (r0 : Sl) (H' : Hp) (w' : World) (_ : Inv w0 ps0 H0 H' [] w') (_ : K r0 H'), R (vs r0) w') (h : a4Z x0 H K) : e4j (Value.agg (b8 x0.t7).toArray) w R E := by
 unfold a4Z at h
 unfold e4j
 refine K6 I (cs := (b8 x0.t7)) rfl fun g_2 w_3 I_4 k_5 => ?_
 refine a7 a4H ?_
 refine a7 B2 ?_
 refine f2 (ld1 Tryz.isAgg51 (I_4.at1 (o := 3) (vs := [(vs x0.t7.k9)]) (nb rfl) rfl)) ?_
 refine f7 (cap := []) (fun args w => Tryz.call189 args w) ?_
 refine k8 (Fi := []) (Fr := [bx g_2 136 (b8 x0.t7)]) I_4 (h) (fun b6Z H_6 b7a w_7 I_8 b7b k_9 a7c => ?_) (fun _ _ _ _ _ q => q.elim)
 obtain ⟨E1, rfl, rfl, h⟩ := a7c
 exact hR E1 H_6 _ I_8.drop h
theorem b8P (x0 : O3) {H : Hp} {K : Sl → Hp → Prop} (h : a4Z x0 H K) : b1t x0 H K := by
 intro w I
 refine g1E ?_
 refine b7z x0 I (fun r0 H' w' I' hk => ⟨H', _, I', r0, rfl, rfl, hk⟩) h
def a7x (x0 : b7) (H : Hp) (K : g8 → Hp → Prop) : Prop :=
 K (g8.R2 (R6.mk x0)) H
theorem c1T (x0 : b7) {K : g8 → Hp → Prop} (I : Inv w0 ps0 H0 H [] w) (hR : ∀ (r0 : g8) (H' : Hp) (w' : World) (_ : Inv w0 ps0 H0 H' [] w') (_ : K r0 H'), R (E8 r0) w') (h : a7x x0 H K) : e4q (Value.agg (d8 x0).toArray) w R E := by
 unfold a7x at h
 unfold e4q
 refine K6 I (cs := (d8 x0)) rfl fun g_2 w_3 I_4 k_5 => ?_
 refine f2 (ldA Tryz.isAgg59 Tryz.sizeOf59 rfl (I_4.at1 (o := 0) (vs := (d8 x0)) (nb rfl) rfl)) ?_
 refine a7 (c4Q _ _ _ _ _ _ _ _) ?_
 refine a7 (c1E (R6.mk x0)) ?_
 exact hR (g8.R2 (R6.mk x0)) H _ I_4.drop h
theorem c3l (x0 : b7) {H : Hp} {K : g8 → Hp → Prop} (h : a7x x0 H K) : b4t x0 H K := by
 intro w I
 refine g1R ?_
 refine c1T x0 I (fun r0 H' w' I' hk => ⟨H', _, I', r0, rfl, rfl, hk⟩) h
def a5a (x0 : R6) (H : Hp) (K : Sl → Hp → Prop) : Prop :=
 C5 x0.r8.f5 H (fun (b4y : Sl) (H_8 : Hp) =>
 K7 x0.r8.o3 H_8 (fun (b4z : Sl) (b3l : Hp) =>
 ∀ (b5B : Sl) (a7w : Hp), Hle b3l a7w → SlH a7w 1 csl b5B [b4y, b4z] → b5B.n ≤ b5B.c →
 J5 b5B a7w (fun (c6X : Sl) (b7c : Hp) =>
 K c6X b7c)))
theorem b7A (x0 : R6) {K : Sl → Hp → Prop} (I : Inv w0 ps0 H0 H [] w) (hR : ∀ (r0 : Sl) (H' : Hp) (w' : World) (_ : Inv w0 ps0 H0 H' [] w') (_ : K r0 H'), R (vs r0) w') (h : a5a x0 H K) : e4o (Value.agg (d8 x0.r8).toArray) w R E := by
 unfold a5a at h
 unfold e4o
 refine K6 I (cs := (d8 x0.r8)) rfl fun g_2 w_3 I_4 k_5 => ?_
 refine a3D I_4 fun w_6 I_7 => ?_
 refine o7 a6r ?_
 refine o7 O4 ?_
 refine o7 a6r ?_
 refine o7 M5 ?_
 refine y9 (ld1 Tryz.isAgg51 (I_7.at1 (o := 2) (vs := [(vs x0.r8.f5)]) (nb rfl) rfl)) ?_
 refine y9 (ld1 Tryz.isAgg57 (I_7.at1 (o := 3) (vs := [(vs x0.r8.o3)]) (nb rfl) rfl)) ?_
 refine f7 (cap := []) (fun args w => Tryz.call189 args w) ?_
 refine k8 (Fi := []) (Fr := [bx g_2 143 (d8 x0.r8)]) I_7 (h) (fun h4H H_8 h4I w_9 b7d c5K c5L d8i => ?_) (fun _ _ _ _ _ q => q.elim)
 obtain ⟨b4y, rfl, rfl, h⟩ := d8i
 refine ⟨(c5L _ I_7.lt1 (Inv.a1t (Fi := []) I_7)), ?_⟩
 refine f7 (cap := []) (fun args w => Tryz.call193 args w) ?_
 refine k8 (Fi := []) (Fr := [bx g_2 143 (d8 x0.r8)]) b7d (h) (fun h4J b3l h4K w5 c3m h4L d8j d8k => ?_) (fun _ _ _ _ _ q => q.elim)
 obtain ⟨b4z, rfl, rfl, h⟩ := d8k
 refine a4b (e := 137) (c := csl) (xs := [b4y, b4z]) c3m (d5W _ _ _ _ _ _) rfl rfl d4I d4J (nb rfl) fun b5B d8l a6Y d8m b4u c8O => ?_
 obtain ⟨a7w, c8W, c2R, d8n, c8X⟩ := Inv.freezeC b4u d8m (by decide)
 replace h := h b5B a7w c2R d8n c8X
 refine f7 (cap := []) (fun args w => Tryz.call75 args w) ?_
 refine k8 (Fi := []) (Fr := [bx g_2 143 (d8 x0.r8)]) c8W (h) (fun j2H b7c j2I b6R a6K d8o h4M f3Z => ?_) (fun _ _ _ _ _ q => q.elim)
 obtain ⟨c6X, rfl, rfl, h⟩ := f3Z
 exact hR c6X b7c _ a6K.drop h
theorem b8Q (x0 : R6) {H : Hp} {K : Sl → Hp → Prop} (h : a5a x0 H K) : b1u x0 H K := by
 intro w I
 refine g1N ?_
 refine b7A x0 I (fun r0 H' w' I' hk => ⟨H', _, I', r0, rfl, rfl, hk⟩) h
def a5z (x0 : a0D) (H : Hp) (K : Bool → Hp → Prop) : Prop :=
 K ((decide (0 ≤ x0.a0E.a1Z)) && (decide (x0.a0E.a1Z ≤ 2147483647))) H
theorem b8R (x0 : a0D) {K : Bool → Hp → Prop} (I : Inv w0 ps0 H0 H [] w) (hR : ∀ (r0 : Bool) (H' : Hp) (w' : World) (_ : Inv w0 ps0 H0 H' [] w') (_ : K r0 H'), R (vB r0) w') (h : a5z x0 H K) : e4r (Value.agg (w6 x0.a0E).toArray) w R E := by
 unfold a5z at h
 unfold e4r
 refine K6 I (cs := (w6 x0.a0E)) rfl fun g_2 w_3 I_4 k_5 => ?_
 refine a7 c0S ?_
 refine a7 b7u ?_
 refine f2 (ld1 Tryz.isAgg3 (I_4.at1 (o := 1) (vs := [(vi x0.a0E.a1Z)]) (nb rfl) rfl)) ?_
 refine a7 (a7e _ _ _ _ _ _) ?_
 refine a7 (Pu.g fun hb => by have d7 := hb; exact c0S) ?_
 refine a7 (Pu.g fun hb => by have d7 := hb; simp only [i6 d7]; exact b7u) ?_
 refine f2 (Ld.g fun hb => by have d7 := hb; simp only [i6 d7]; exact (ld1 Tryz.isAgg3 (I_4.at1 (o := 1) (vs := [(vi x0.a0E.a1Z)]) (nb rfl) rfl))) ?_
 refine a7 (Pu.g fun hb => by have d7 := hb; simp only [i6 d7]; exact (b4a _ _ _ _ _ _)) ?_
 refine a7 (w8 _ _) ?_
 exact hR ((decide (0 ≤ x0.a0E.a1Z)) && (decide (x0.a0E.a1Z ≤ 2147483647))) H _ I_4.drop h
theorem b9Y (x0 : a0D) {H : Hp} {K : Bool → Hp → Prop} (h : a5z x0 H K) : b2v x0 H K := by
 intro w I
 refine g1T ?_
 refine b8R x0 I (fun r0 H' w' I' hk => ⟨H', _, I', r0, rfl, rfl, hk⟩) h
end Go.Proofs.YtnhkdkcgdcgmdaaGreatDoor
