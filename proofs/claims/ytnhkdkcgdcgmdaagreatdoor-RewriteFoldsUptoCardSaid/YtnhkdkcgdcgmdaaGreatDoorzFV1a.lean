/- Typed formulas of the program's functions, and the theorems that the contracts follow from them; printed by lift.py off the code. -/
import Derived.Test.YtnhkdkcgdcgmdaaGreatDoorzFV1
namespace Go.Proofs.YtnhkdkcgdcgmdaaGreatDoor
open Go.RowKit
set_option maxRecDepth 100000
set_option maxHeartbeats 2000000
variable {w0 w : World} {ps0 : Nat → Prop} {H0 H : Hp} {R : RT} {E : Pan}
def b1p (H : Hp) (K : Bool → Hp → Prop) : Prop :=
 K true H
def W6 (c4C : ByteArray) (S1 : Nat) (H : Hp) (n2 : Nat → Hp → Prop) (K : Bool → Hp → Prop) : Prop :=
 (S1 < c4C.size →
 b2a ((Utf8.decode c4C S1).1 : Int) H (fun (a8a : Bool) (b4o : Hp) =>
 TG ((!(!a8a) && (decide (((S1 : Nat) : Int) = 0))) = true) (a8R ((Utf8.decode c4C S1).1 : Int) b4o) 0 b4o (fun (b0o : Int) (b3J : Hp) =>
 (((!a8a) || ((decide (((S1 : Nat) : Int) = 0)) && (!decide (b0o = 3)))) = true →
 K false b3J) ∧
 (((!a8a) || ((decide (((S1 : Nat) : Int) = 0)) && (!decide (b0o = 3)))) = false →
 n2 (S1 + (Utf8.decode c4C S1).2) b3J)))) ∧
 (¬ (S1 < c4C.size) →
 b1p H K)
def b0p (x0 : ByteArray) (H : Hp) (K : Bool → Hp → Prop) : Prop :=
 TG ((decide (x0 = ⟨#[]⟩)) = false) (b1U x0 H) false H (fun (B2 : Bool) (H_1 : Hp) =>
 TG (((decide (x0 = ⟨#[]⟩)) || (!B2)) = false) (b0l x0 H_1) false H_1 (fun (y9 : Bool) (a1h : Hp) =>
 TG ((((decide (x0 = ⟨#[]⟩)) || (!B2)) || y9) = false) (a7N x0 a1h) false a1h (fun (E6 : Bool) (Q4 : Hp) =>
 (((((decide (x0 = ⟨#[]⟩)) || (!B2)) || y9) || E6) = true →
 K false Q4) ∧
 (((((decide (x0 = ⟨#[]⟩)) || (!B2)) || y9) || E6) = false →
 TL (0 : Nat) Q4 fun (s : Nat) H n2 => W6 x0 s H n2 K))))
theorem c8M (x0 : ByteArray) {K : Bool → Hp → Prop} (I : Inv w0 ps0 H0 H [] w) (hR : ∀ (r0 : Bool) (H' : Hp) (w' : World) (_ : Inv w0 ps0 H0 H' [] w') (_ : K r0 H'), R (vB r0) w') (h : b0p x0 H K) : e8n (Value.string x0) w R E := by
 unfold b0p at h
 unfold e8n
 refine a7 (W2 _ _ _ _ _) ?_
 simp only [u5]
 refine X8 (D := fun v_5 w_2 => ∃ (B2 : Bool) (H_1 : Hp) , v_5 = (gv (decide (x0 = ⟨#[]⟩)) false (vB B2)) ∧ (Inv w0 ps0 H0 H_1 [] w_2) ∧ (∀ i, i < w.heap.size → ¬ inF [] i → w_2.heap[i]? = w.heap[i]?) ∧ Hle H H_1 ∧ (TG (((decide (x0 = ⟨#[]⟩)) || (!B2)) = false) (b0l x0 H_1) false H_1 (fun (y9 : Bool) (a1h : Hp) =>
 TG ((((decide (x0 = ⟨#[]⟩)) || (!B2)) || y9) = false) (a7N x0 a1h) false a1h (fun (E6 : Bool) (Q4 : Hp) =>
 (((((decide (x0 = ⟨#[]⟩)) || (!B2)) || y9) || E6) = true →
 K false Q4) ∧
 (((((decide (x0 = ⟨#[]⟩)) || (!B2)) || y9) || E6) = false →
 TL (0 : Nat) Q4 fun (s : Nat) H n2 => W6 x0 s H n2 K))))) (fun d4a => ?_) (fun d4a => ?_) ?_
 ·replace h := h.1 d4a
  have b9 := d4a
  simp only [i7 b9]
  refine g9 (cap := []) (fun args w => Tryz.call162 args w) ?_
  refine l7 (Fi := []) (Fr := []) I (h) (fun v_5 H_1 F_6 w_2 I_3 l_8 k_4 q_7 => ?_) (fun _ _ _ _ _ q => q.elim)
  obtain ⟨B2, rfl, rfl, h⟩ := q_7
  exact ⟨B2, H_1, by rfl, I_3, k_4, l_8, h⟩
 ·exact ⟨false, H, by rw [a4L d4a], I, fun _ _ _ => rfl, Hle.refl _, h.2 d4a⟩
 ·clear h
  rintro v_5 w_2 ⟨B2, H_1, rfl, I_3, k_4, l_8, h⟩
  refine a7 (Pu.g fun hb => by have b9 := hb; simp only [i7 b9]; exact (T4 _)) ?_
  refine a7 (J4 _ _) ?_
  simp only [u5]
  refine X8 (D := fun c5I P0 => ∃ (y9 : Bool) (a1h : Hp) , c5I = (gv ((decide (x0 = ⟨#[]⟩)) || (!B2)) false (vB y9)) ∧ (Inv w0 ps0 H0 a1h [] P0) ∧ (∀ i, i < w_2.heap.size → ¬ inF [] i → P0.heap[i]? = w_2.heap[i]?) ∧ Hle H_1 a1h ∧ (TG ((((decide (x0 = ⟨#[]⟩)) || (!B2)) || y9) = false) (a7N x0 a1h) false a1h (fun (E6 : Bool) (Q4 : Hp) =>
 (((((decide (x0 = ⟨#[]⟩)) || (!B2)) || y9) || E6) = true →
 K false Q4) ∧
 (((((decide (x0 = ⟨#[]⟩)) || (!B2)) || y9) || E6) = false →
 TL (0 : Nat) Q4 fun (s : Nat) H n2 => W6 x0 s H n2 K)))) (fun e1F => ?_) (fun e1F => ?_) ?_
  ·replace h := h.1 e1F
   have b9 := e1F
   simp only [i7 b9]
   refine g9 (cap := []) (fun args w => Tryz.call163 args w) ?_
   refine l7 (Fi := []) (Fr := []) I_3 (h) (fun c5I a1h d6R P0 B1 c0E b6Y b6Z => ?_) (fun _ _ _ _ _ q => q.elim)
   obtain ⟨y9, rfl, rfl, h⟩ := b6Z
   exact ⟨y9, a1h, by rfl, B1, b6Y, c0E, h⟩
  ·exact ⟨false, H_1, by rw [a4L e1F], I_3, fun _ _ _ => rfl, Hle.refl _, h.2 e1F⟩
  ·clear h
   rintro c5I P0 ⟨y9, a1h, rfl, B1, b6Y, c0E, h⟩
   refine a7 (J4 _ _) ?_
   simp only [u5]
   refine X8 (D := fun c3C r9 => ∃ (E6 : Bool) (Q4 : Hp) , c3C = (gv (((decide (x0 = ⟨#[]⟩)) || (!B2)) || y9) false (vB E6)) ∧ (Inv w0 ps0 H0 Q4 [] r9) ∧ (∀ i, i < P0.heap.size → ¬ inF [] i → r9.heap[i]? = P0.heap[i]?) ∧ Hle a1h Q4 ∧ ((((((decide (x0 = ⟨#[]⟩)) || (!B2)) || y9) || E6) = true →
 K false Q4) ∧
 (((((decide (x0 = ⟨#[]⟩)) || (!B2)) || y9) || E6) = false →
 TL (0 : Nat) Q4 fun (s : Nat) H n2 => W6 x0 s H n2 K))) (fun e1G => ?_) (fun e1G => ?_) ?_
   ·replace h := h.1 e1G
    have b9 := e1G
    simp only [i7 b9]
    refine g9 (cap := []) (fun args w => Tryz.call164 args w) ?_
    refine l7 (Fi := []) (Fr := []) B1 (h) (fun c3C Q4 e8K r9 a0h c3D b4p c5J => ?_) (fun _ _ _ _ _ q => q.elim)
    obtain ⟨E6, rfl, rfl, h⟩ := c5J
    exact ⟨E6, Q4, by rfl, a0h, b4p, c3D, h⟩
   ·exact ⟨false, a1h, by rw [a4L e1G], B1, fun _ _ _ => rfl, Hle.refl _, h.2 e1G⟩
   ·clear h
    rintro c3C r9 ⟨E6, Q4, rfl, a0h, b4p, c3D, h⟩
    refine a7 (J4 _ _) ?_
    refine o0 (fun f8R => ?_) (fun f8R => ?_)
    ·replace h := h.1 f8R
     exact hR false Q4 _ a0h h
    ·replace h := h.2 f8R
     have hj1 : ∀ (H : Hp) (w : World) (_ : Inv w0 ps0 H0 H [] w) (_ : b1p H K), d6B w R E := by
      intro H w I h
      unfold d6B
      intro _
      unfold b1p at h
      exact hR true H _ I h
     refine t6 fun j1 hx1 => ?_
     refine e6n Tryz.underlying9 x0 a0h fun e8L C4 b8O d6S => ?_
     obtain ⟨f8S, e1H, k0I, k0J⟩ := h
     refine B5 (J := fun n l w => ∃ (s : Nat) (H : Hp) , n = e1H s ∧ l = [] ∧ Inv w0 ps0 H0 H [itf e8L x0 s] w ∧ f8S s H) ⟨_, 0, Q4, rfl, rfl, b8O, k0I⟩ ?_
     rintro l0l τ_94 w next2 ⟨S1, H, rfl, k0K, I, k0L⟩ hn2
     clear k0K
     obtain ⟨n2, hm2, h⟩ : ∃ n2 : Nat → Hp → Prop, (∀ s' H', n2 s' H' → f8S s' H' ∧ e1H s' < e1H S1) ∧ W6 x0 S1 H n2 K := ⟨_, fun _ _ h => h, k0J S1 H (fun s' H' => f8S s' H' ∧ e1H s' < e1H S1) k0L (fun _ _ a b => ⟨a, b⟩)⟩
     unfold e6D
     unfold W6 at h
     refine f5s I (fun d2a b4k f8T f8U => ?_) (fun d2a => ?_)
     ·replace h := h.1 d2a
      refine a7 (o2 _ _ (vB true) rfl) ?_
      refine o0 (fun e => ?_) (fun e => by cases e)
      refine a7 (o2 _ _ (vi ((S1 : Nat) : Int)) rfl) ?_
      refine a7 (o2 _ _ (Value.int .i32 ((Utf8.decode x0 S1).1 : Int)) rfl) ?_
      refine g9 (cap := []) (fun args w => Tryz.call165 args w) ?_
      refine l7 (Fi := []) (Fr := [itf e8L x0 (S1 + (Utf8.decode x0 S1).2)]) f8T (h) (fun d6T b4o f8V T7 c8N f8W f8X d2b => ?_) (fun _ _ _ _ _ q => q.elim)
      obtain ⟨a8a, rfl, rfl, h⟩ := d2b
      refine a7 (T4 _) ?_
      simp only [u5]
      refine a7 (Pu.g fun hb => by have b9 := hb; simp only [i7 b9]; exact (i8 _ _ _ _ _ _)) ?_
      simp only [b1b, b8n]
      refine c2J (a5x _ _ _) ?_
      refine X8 (D := fun e8M b8M => ∃ (b0o : Int) (b3J : Hp) , e8M = (gv (!(!a8a) && (decide (((S1 : Nat) : Int) = 0))) true (vi b0o)) ∧ (Inv w0 ps0 H0 b3J [itf e8L x0 (S1 + (Utf8.decode x0 S1).2)] b8M) ∧ (∀ i, i < T7.heap.size → ¬ inF [] i → b8M.heap[i]? = T7.heap[i]?) ∧ Hle b4o b3J ∧ ((((!a8a) || ((decide (((S1 : Nat) : Int) = 0)) && (!decide (b0o = 3)))) = true →
 K false b3J) ∧
 (((!a8a) || ((decide (((S1 : Nat) : Int) = 0)) && (!decide (b0o = 3)))) = false →
 n2 (S1 + (Utf8.decode x0 S1).2) b3J))) (fun d6U => ?_) (fun d6U => ?_) ?_
      ·replace h := h.1 d6U
       obtain ⟨b9, a3x⟩ := a9s d6U
       simp only [i7 d6U]
       refine g9 (cap := []) (fun args w => Tryz.call166 args w) ?_
       refine l7 (Fi := []) (Fr := [itf e8L x0 (S1 + (Utf8.decode x0 S1).2)]) c8N (h) (fun e8M b3J k0M b8M d6V e1I f8Y f8Z => ?_) (fun _ _ _ _ _ q => q.elim)
       obtain ⟨b0o, rfl, rfl, h⟩ := f8Z
       exact ⟨b0o, b3J, by rfl, d6V, f8Y, e1I, h⟩
      ·exact ⟨0, b4o, by rw [a4L d6U], c8N, fun _ _ _ => rfl, Hle.refl _, h.2 d6U⟩
      ·clear h
       rintro e8M b8M ⟨b0o, b3J, rfl, d6V, f8Y, e1I, h⟩
       refine a7 (Pu.e (a5x _ _ _) (Pu.g fun hb => by obtain ⟨b9, a3x⟩ := a9s hb; simp only [i7 hb]; exact (M7 _ _ _ _ _ _))) ?_
       refine a7 (Pu.g fun hb => by have b9 := hb; simp only [i7 b9, b5u b9]; exact (s7 _ _)) ?_
       refine a7 (J4 _ _) ?_
       refine o0 (fun d2c => ?_) (fun d2c => ?_)
       ·replace h := h.1 d2c
        exact hR false b3J _ d6V.drop h
       ·replace h := h.2 d2c
        exact hn2 _ _ _ (hm2 _ _ h).2 ⟨(S1 + (Utf8.decode x0 S1).2), b3J, rfl, rfl, d6V, (hm2 _ _ h).1⟩
     ·replace h := h.2 d2a
      refine a7 (o2 _ _ (vB false) rfl) ?_
      refine o0 (fun e => by cases e) (fun e => ?_)
      exact hx1 _ _ (hj1 H _ I.drop h)
theorem d1q (x0 : ByteArray) {H : Hp} {K : Bool → Hp → Prop} (h : b0p x0 H K) : b0m x0 H K := by
 intro w I
 refine g8e ?_
 refine c8M x0 I (fun r0 H' w' I' hk => ⟨H', _, I', r0, rfl, rfl, hk⟩) h
def a8b (x0 : I3) (H : Hp) (K : i5 → Hp → Prop) : Prop :=
 K (i5.S6 (a0k.mk x0)) H
theorem c4D (x0 : I3) {K : i5 → Hp → Prop} (I : Inv w0 ps0 H0 H [] w) (hR : ∀ (r0 : i5) (H' : Hp) (w' : World) (_ : Inv w0 ps0 H0 H' [] w') (_ : K r0 H'), R (E7 r0) w') (h : a8b x0 H K) : F77 (Value.agg (y8 x0).toArray) w R E := by
 unfold a8b at h
 unfold F77
 refine J5 I (cs := (y8 x0)) rfl fun g_2 w_3 I_4 k_5 => ?_
 refine f7 (ldA Tryz.isAgg71 Tryz.sizeOf71 rfl (I_4.at1 (o := 0) (vs := (y8 x0)) (nb rfl) rfl)) ?_
 refine a7 (e0a _ _) ?_
 refine a7 (d6n (a0k.mk x0)) ?_
 exact hR (i5.S6 (a0k.mk x0)) H _ I_4.drop h
theorem c5K (x0 : I3) {H : Hp} {K : i5 → Hp → Prop} (h : a8b x0 H K) : b5I x0 H K := by
 intro w I
 refine h8c ?_
 refine c4D x0 I (fun r0 H' w' I' hk => ⟨H', _, I', r0, rfl, rfl, hk⟩) h
def G7 (J6 : (List i5)) (H : Hp) (K : Sl → Hp → Prop) : Prop :=
 ∀ (w6 : Sl) (J9 : Hp), Hle H J9 → SlH J9 1 w8 w6 J6 → w6.n ≤ w6.c →
 K w6 J9
def G8 (O0 : Sl) (a5d : Int) (p9 : (List i5)) (p1 : Int) (H : Hp) (n2 : ((List i5) × Int) → Hp → Prop) (K : Sl → Hp → Prop) : Prop :=
 (p1 < a5d →
 (0 : Int) ≤ p1 ∧ (p1 : Int) < O0.n ∧ ∃ x_1 : I3, EltH H O0 p1 2 (y8 x_1) ∧
 b5I x_1 H (fun (D7 : i5) (R6 : Hp) =>
 (p9.length + ([D7] : List i5).length) * 17 ≤ 140737488355328 ∧
 n2 ((p9 ++ [D7]), (IntKind.wrap .i64 (p1 + 1))) R6)) ∧
 (¬ (p1 < a5d) →
 G7 p9 H K)
def I9 (x0 : Sl) (H : Hp) (K : Sl → Hp → Prop) : Prop :=
 TL (([], 0) : (List i5) × Int) H fun (s : (List i5) × Int) H n2 => G8 x0 (x0.n : Int) s.1 s.2 H n2 K
theorem a6f (x0 : Sl) {K : Sl → Hp → Prop} (I : Inv w0 ps0 H0 H [] w) (hR : ∀ (r0 : Sl) (H' : Hp) (w' : World) (_ : Inv w0 ps0 H0 H' [] w') (_ : K r0 H'), R (vs r0) w') (h : I9 x0 H K) : F76 (vs x0) (fC 77) w R E := by
 unfold I9 at h
 unfold F76
 have hj1 : ∀ (J6 : (List i5)) (w6 : Sl) (Fs5j1 : Frag) (H : Hp) (w : World) (_ : RowL 150 1 w8 w6 J6 Fs5j1) (_ : Inv w0 ps0 H0 H [Fs5j1] w) (_ : G7 J6 H K), e0X (vs w6) w R E := by
  intro J6 w6 Fs5j1 H w a9B I h
  unfold e0X
  intro _
  unfold G7 at h
  obtain ⟨J9, a9Y, b0K, a7g, a6p⟩ := Inv.freezeC I a9B (by decide)
  replace h := h w6 J9 b0K a7g a6p
  exact hR w6 J9 _ a9Y h
 refine t6 fun j1 hx1 => ?_
 refine a7 (b2t _ _ _) ?_
 obtain ⟨a2t, Q6, b2J, b2K⟩ := h
 refine B5 (J := fun n l w => ∃ (s : (List i5) × Int) (H : Hp) (J7 : Sl) (Fs5l2 : Frag) , n = Q6 s ∧ l = (match s with | (p9, p1) => [(vs J7), (vi p1)]) ∧ (match s with | (p9, p1) => RowL 150 1 w8 J7 p9 Fs5l2) ∧ (match s with | (p9, p1) => Inv w0 ps0 H0 H [Fs5l2] w) ∧ a2t s H) ⟨_, ([], 0), H, (Sl.mk none 0 0), [], rfl, rfl, (RowL.nil T6 V6), I.nil, b2J⟩ ?_
 rintro c8O τ_50 w next2 ⟨⟨p9, p1⟩, H, J7, Fs5l2, rfl, a1D, W7, I, b2L⟩ hn2
 dsimp only at a1D I W7
 simp only [List.map_cons, List.map_nil, List.cons.injEq, and_true] at a1D
 obtain ⟨e5, e10⟩ := a1D
 simp only [e5, e10]
 obtain ⟨n2, hm2, h⟩ : ∃ n2 : ((List i5) × Int) → Hp → Prop, (∀ s' H', n2 s' H' → a2t s' H' ∧ Q6 s' < Q6 (p9, p1)) ∧ G8 x0 (x0.n : Int) p9 p1 H n2 K := ⟨_, fun _ _ h => h, b2K (p9, p1) H (fun s' H' => a2t s' H' ∧ Q6 s' < Q6 (p9, p1)) b2L (fun _ _ a b => ⟨a, b⟩)⟩
 unfold f6c
 unfold G8 at h
 refine a7 (w9 _ _ _ _ _ _) ?_
 refine k7 (fun a0p => ?_) (fun a0p => ?_)
 ·replace h := h.1 a0p
  obtain ⟨h_4, h_5, x_1, h_7, h⟩ := h
  obtain ⟨g_2, o_3, h_6, h_7⟩ := h_7
  refine a7 (b6O h_6 _ _ _ _ h_4 h_5) ?_
  refine f7 (ldA (vs := (y8 x_1)) Tryz.isAgg71 Tryz.sizeOf71 rfl (I.atH h_7)) ?_
  refine z7 I Tryz.zeroValue71 (cs := [(eS), (vi 0)]) rfl fun g_9 p5 a3l b4q => ?_
  refine m6 a3l Tryz.sizeOf71 (vs := (y8 x_1)) (cs' := (y8 x_1)) rfl rfl (nb rfl) rfl rfl fun a2s L9 a4z => ?_
  refine f7 (ldA Tryz.isAgg71 Tryz.sizeOf71 rfl (L9.at1 (o := 0) (vs := (y8 x_1)) (nb rfl) rfl)) ?_
  refine g9 (cap := []) (fun args w => Tryz.call77 args w) ?_
  refine l7 (Fi := []) (Fr := [bx g_9 71 (y8 x_1), Fs5l2]) L9 (h) (fun c3E R6 c0F a1B a3y c3F c0G a9Z => ?_) (fun _ _ _ _ _ q => q.elim)
  obtain ⟨D7, rfl, rfl, h⟩ := a9Z
  refine a5A (e := 150) (c := w8) (xs := [D7]) a3y (b6Q _) rfl rfl T6 V6 (nb rfl) fun b0a b3K B3 a7h T8 a9i => ?_
  obtain ⟨b0b, h⟩ := h
  refine c4o (s := J7) (xs := p9) (T8.bring 2) W7 (a7h.srcO ((T8.bring 2).bring 1)) b0b fun a8c b0L A6 b0c a5D b7a => ?_
  refine a7 (y6 _ _ _ _ _ _) ?_
  exact hn2 _ _ _ (hm2 _ _ h).2 ⟨((p9 ++ [D7]), (IntKind.wrap .i64 (p1 + 1))), R6, a8c, b0L, rfl, rfl, b0c, ((a5D.bring 1).drop.bring 1).drop, (hm2 _ _ h).1⟩
 ·replace h := h.2 a0p
  exact hx1 _ _ (hj1 p9 J7 Fs5l2 H _ W7 I h)
theorem a6q (x0 : Sl) {H : Hp} {K : Sl → Hp → Prop} (h : I9 x0 H K) : P3 x0 H K := by
 intro w I
 refine h8a ?_
 refine a6f x0 I (fun r0 H' w' I' hk => ⟨H', _, I', r0, rfl, rfl, hk⟩) h
def G9 (J6 : (List i5)) (H : Hp) (K : Sl → Hp → Prop) : Prop :=
 ∀ (w6 : Sl) (J9 : Hp), Hle H J9 → SlH J9 1 w8 w6 J6 → w6.n ≤ w6.c →
 K w6 J9
def H7 (O0 : Sl) (a5d : Int) (p9 : (List i5)) (p1 : Int) (H : Hp) (n2 : ((List i5) × Int) → Hp → Prop) (K : Sl → Hp → Prop) : Prop :=
 (p1 < a5d →
 (0 : Int) ≤ p1 ∧ (p1 : Int) < O0.n ∧ ∃ x_1 : d8, EltH H O0 p1 6 (g8 x_1) ∧
 b5J x_1 H (fun (D7 : i5) (R6 : Hp) =>
 (p9.length + ([D7] : List i5).length) * 17 ≤ 140737488355328 ∧
 n2 ((p9 ++ [D7]), (IntKind.wrap .i64 (p1 + 1))) R6)) ∧
 (¬ (p1 < a5d) →
 G9 p9 H K)
def J0 (x0 : Sl) (H : Hp) (K : Sl → Hp → Prop) : Prop :=
 TL (([], 0) : (List i5) × Int) H fun (s : (List i5) × Int) H n2 => H7 x0 (x0.n : Int) s.1 s.2 H n2 K
theorem a6g (x0 : Sl) {K : Sl → Hp → Prop} (I : Inv w0 ps0 H0 H [] w) (hR : ∀ (r0 : Sl) (H' : Hp) (w' : World) (_ : Inv w0 ps0 H0 H' [] w') (_ : K r0 H'), R (vs r0) w') (h : J0 x0 H K) : F78 (vs x0) (fC 79) w R E := by
 unfold J0 at h
 unfold F78
 have hj1 : ∀ (J6 : (List i5)) (w6 : Sl) (Fs5j1 : Frag) (H : Hp) (w : World) (_ : RowL 150 1 w8 w6 J6 Fs5j1) (_ : Inv w0 ps0 H0 H [Fs5j1] w) (_ : G9 J6 H K), e0Y (vs w6) w R E := by
  intro J6 w6 Fs5j1 H w a9B I h
  unfold e0Y
  intro _
  unfold G9 at h
  obtain ⟨J9, a9Y, b0K, a7g, a6p⟩ := Inv.freezeC I a9B (by decide)
  replace h := h w6 J9 b0K a7g a6p
  exact hR w6 J9 _ a9Y h
 refine t6 fun j1 hx1 => ?_
 refine a7 (W4 _ _ _) ?_
 obtain ⟨a2t, Q6, b2J, b2K⟩ := h
 refine B5 (J := fun n l w => ∃ (s : (List i5) × Int) (H : Hp) (J7 : Sl) (Fs5l2 : Frag) , n = Q6 s ∧ l = (match s with | (p9, p1) => [(vs J7), (vi p1)]) ∧ (match s with | (p9, p1) => RowL 150 1 w8 J7 p9 Fs5l2) ∧ (match s with | (p9, p1) => Inv w0 ps0 H0 H [Fs5l2] w) ∧ a2t s H) ⟨_, ([], 0), H, (Sl.mk none 0 0), [], rfl, rfl, (RowL.nil T6 V6), I.nil, b2J⟩ ?_
 rintro c8O τ_50 w next2 ⟨⟨p9, p1⟩, H, J7, Fs5l2, rfl, a1D, W7, I, b2L⟩ hn2
 dsimp only at a1D I W7
 simp only [List.map_cons, List.map_nil, List.cons.injEq, and_true] at a1D
 obtain ⟨e5, e10⟩ := a1D
 simp only [e5, e10]
 obtain ⟨n2, hm2, h⟩ : ∃ n2 : ((List i5) × Int) → Hp → Prop, (∀ s' H', n2 s' H' → a2t s' H' ∧ Q6 s' < Q6 (p9, p1)) ∧ H7 x0 (x0.n : Int) p9 p1 H n2 K := ⟨_, fun _ _ h => h, b2K (p9, p1) H (fun s' H' => a2t s' H' ∧ Q6 s' < Q6 (p9, p1)) b2L (fun _ _ a b => ⟨a, b⟩)⟩
 unfold f6d
 unfold H7 at h
 refine a7 (w9 _ _ _ _ _ _) ?_
 refine k7 (fun a0p => ?_) (fun a0p => ?_)
 ·replace h := h.1 a0p
  obtain ⟨h_4, h_5, x_1, h_7, h⟩ := h
  obtain ⟨g_2, o_3, h_6, h_7⟩ := h_7
  refine a7 (a0m h_6 _ _ _ _ h_4 h_5) ?_
  refine f7 (ldA (vs := (g8 x_1)) Tryz.isAgg73 Tryz.sizeOf73 rfl (I.atH h_7)) ?_
  refine z7 I Tryz.zeroValue73 (cs := [(vi 0), (eS), (nS), (nS), (nS), (nS)]) rfl fun g_9 p5 a3l b4q => ?_
  refine m6 a3l Tryz.sizeOf73 (vs := (g8 x_1)) (cs' := (g8 x_1)) rfl rfl (nb rfl) rfl rfl fun a2s L9 a4z => ?_
  refine f7 (ldA Tryz.isAgg73 Tryz.sizeOf73 rfl (L9.at1 (o := 0) (vs := (g8 x_1)) (nb rfl) rfl)) ?_
  refine g9 (cap := []) (fun args w => Tryz.call79 args w) ?_
  refine l7 (Fi := []) (Fr := [bx g_9 73 (g8 x_1), Fs5l2]) L9 (h) (fun c3E R6 c0F a1B a3y c3F c0G a9Z => ?_) (fun _ _ _ _ _ q => q.elim)
  obtain ⟨D7, rfl, rfl, h⟩ := a9Z
  refine a5A (e := 150) (c := w8) (xs := [D7]) a3y (b6Q _) rfl rfl T6 V6 (nb rfl) fun b0a b3K B3 a7h T8 a9i => ?_
  obtain ⟨b0b, h⟩ := h
  refine c4o (s := J7) (xs := p9) (T8.bring 2) W7 (a7h.srcO ((T8.bring 2).bring 1)) b0b fun a8c b0L A6 b0c a5D b7a => ?_
  refine a7 (y6 _ _ _ _ _ _) ?_
  exact hn2 _ _ _ (hm2 _ _ h).2 ⟨((p9 ++ [D7]), (IntKind.wrap .i64 (p1 + 1))), R6, a8c, b0L, rfl, rfl, b0c, ((a5D.bring 1).drop.bring 1).drop, (hm2 _ _ h).1⟩
 ·replace h := h.2 a0p
  exact hx1 _ _ (hj1 p9 J7 Fs5l2 H _ W7 I h)
theorem a6r (x0 : Sl) {H : Hp} {K : Sl → Hp → Prop} (h : J0 x0 H K) : C2 x0 H K := by
 intro w I
 refine h8e ?_
 refine a6g x0 I (fun r0 H' w' I' hk => ⟨H', _, I', r0, rfl, rfl, hk⟩) h
def a1W (a7u : d9) (Q7 : d9) (N9 : m5) (H : Hp) (K : d9 → Hp → Prop) : Prop :=
 K a7u H
def a1X (a1i : m5) (b4r : Int) (a6s : d9) (P1 : d9) (H : Hp) (n3 : (Int × d9 × d9) → Hp → Prop) (K : d9 → Hp → Prop) : Prop :=
 (((decide (b4r < (a1i.V3.n : Int))) && (decide (a6s.fbad = 0))) = true →
 (0 : Int) ≤ b4r ∧ (b4r : Int) < a1i.V3.n ∧ ∃ c5L : d8, EltH H a1i.V3 b4r 6 (g8 c5L) ∧
 Y3 a6s c5L 1 H (fun (c5M : d9) (d2d : Hp) =>
 n3 ((IntKind.wrap .i64 (b4r + 1)), c5M, P1) d2d)) ∧
 (((decide (b4r < (a1i.V3.n : Int))) && (decide (a6s.fbad = 0))) = false →
 a1W a6s P1 a1i H K)
def a1Y (b9X : d9) (m7 : d9) (r7 : m5) (H : Hp) (K : d9 → Hp → Prop) : Prop :=
 TL ((0, b9X, m7) : Int × d9 × d9) H fun (s : Int × d9 × d9) H n3 => a1X r7 s.1 s.2.1 s.2.2 H n3 K
def a1Z (Q8 : m5) (a5e : Int) (a6t : d9) (T5 : d9) (H : Hp) (n4 : (Int × d9 × d9) → Hp → Prop) (K : d9 → Hp → Prop) : Prop :=
 (((decide (a5e < (Q8.z8.n : Int))) && (decide (a6t.fbad = 0))) = true →
 T0 a6t 1 H (fun (b1q : Bool) (e8N : d9) (b4s : Hp) =>
 n4 ((IntKind.wrap .i64 (a5e + 1)), e8N, T5) b4s)) ∧
 (((decide (a5e < (Q8.z8.n : Int))) && (decide (a6t.fbad = 0))) = false →
 a1Y a6t T5 Q8 H K)
def a3N (x0 : m5) (H : Hp) (K : d9 → Hp → Prop) : Prop :=
 TL ((0, (d9.mk 0 0 0), (d9.mk 0 0 0)) : Int × d9 × d9) H fun (s : Int × d9 × d9) H n4 => a1Z x0 s.1 s.2.1 s.2.2 H n4 K
theorem b8s (x0 : m5) {K : d9 → Hp → Prop} (I : Inv w0 ps0 H0 H [] w) (hR : ∀ (r0 : d9) (H' : Hp) (w' : World) (_ : Inv w0 ps0 H0 H' [] w') (_ : K r0 H'), R (Value.agg (k8 r0).toArray) w') (h : a3N x0 H K) : F47 (Value.agg (k4 x0).toArray) w R E := by
 unfold a3N at h
 unfold F47
 refine J5 I (cs := (k4 x0)) rfl fun g_2 w_3 I_4 k_5 => ?_
 refine z7 I_4 Tryz.zeroValue108 (cs := [(vi 0), (vi 0), (vi 0)]) rfl fun g_7 w_8 I_9 b0M => ?_
 refine a7 (e7Y ) ?_
 refine z7 I_9 Tryz.zeroValue108 (cs := [(vi 0), (vi 0), (vi 0)]) rfl fun P4 a2s L9 a4z => ?_
 refine m6 L9 Tryz.sizeOf108 (vs := [(vi 0), (vi 0), (vi 0)]) (cs' := [(vi 0), (vi 0), (vi 0)]) rfl rfl (nb rfl) rfl rfl fun r8 b5M e1J => ?_
 have hj1 : ∀ (b9X : d9) (m7 : d9) (H : Hp) (w : World) (_ : Inv w0 ps0 H0 H [bx P4 108 (k8 b9X), bx g_7 108 (k8 m7), bx g_2 25 (k4 x0)] w) (_ : a1Y b9X m7 x0 H K), e0v (Value.pointer (some ⟨g_2, 0, none⟩)) (Value.pointer (some ⟨g_7, 0, none⟩)) (Value.pointer (some ⟨P4, 0, none⟩)) w R E := by
  intro b9X m7 H w I h
  unfold e0v
  intro _
  unfold a1Y at h
  have hj2 : ∀ (a7u : d9) (Q7 : d9) (H : Hp) (w : World) (_ : Inv w0 ps0 H0 H [bx P4 108 (k8 a7u), bx g_7 108 (k8 Q7), bx g_2 25 (k4 x0)] w) (_ : a1W a7u Q7 x0 H K), e0t (Value.pointer (some ⟨g_7, 0, none⟩)) (Value.pointer (some ⟨P4, 0, none⟩)) w R E := by
   intro a7u Q7 H w I h
   unfold e0t
   intro _
   unfold a1W at h
   refine f7 (ldA Tryz.isAgg108 Tryz.sizeOf108 rfl (I.at1 (o := 0) (vs := (k8 a7u)) (nb rfl) rfl)) ?_
   refine m6 (I.bring 1) Tryz.sizeOf108 (vs := (k8 a7u)) (cs' := (k8 a7u)) rfl rfl (nb rfl) rfl rfl fun E4 b2c d6W => ?_
   refine B0 Tryz.isAgg108 Tryz.sizeOf108 rfl (b2c.at1 (o := 0) (vs := (k8 a7u)) (nb rfl) rfl) ?_
   exact hR a7u H _ b2c.drop.drop.drop h
  refine t6 fun j2 hx2 => ?_
  obtain ⟨c0H, b2M, e1K, e1L⟩ := h
  refine B5 (J := fun n l w => ∃ (s : Int × d9 × d9) (H : Hp) , n = b2M s ∧ l = (match s with | (b4r, a6s, P1) => [(vi b4r)]) ∧ (match s with | (b4r, a6s, P1) => Inv w0 ps0 H0 H [bx P4 108 (k8 a6s), bx g_7 108 (k8 P1), bx g_2 25 (k4 x0)] w) ∧ c0H s H) ⟨_, (0, b9X, m7), H, rfl, rfl, (((I.bring 2).bring 2).bring 2), e1K⟩ ?_
  rintro i3d τ_78 w next3 ⟨⟨b4r, a6s, P1⟩, H, rfl, b3G, I, e1M⟩ hn3
  dsimp only at b3G I
  simp only [List.map_cons, List.map_nil, List.cons.injEq, and_true] at b3G
  have e5 := b3G
  simp only [e5]
  obtain ⟨n3, hm3, h⟩ : ∃ n3 : (Int × d9 × d9) → Hp → Prop, (∀ s' H', n3 s' H' → c0H s' H' ∧ b2M s' < b2M (b4r, a6s, P1)) ∧ a1X x0 b4r a6s P1 H n3 K := ⟨_, fun _ _ h => h, e1L (b4r, a6s, P1) H (fun s' H' => c0H s' H' ∧ b2M s' < b2M (b4r, a6s, P1)) e1M (fun _ _ a b => ⟨a, b⟩)⟩
  unfold f5K
  unfold a1X at h
  refine a7 a3D ?_
  refine f7 (ld1 Tryz.isAgg23 ((I.bring 2).at1 (o := 1) (vs := [(vs x0.V3)]) (nb rfl) rfl)) ?_
  refine a7 (W4 _ _ _) ?_
  refine a7 (w9 _ _ _ _ _ _) ?_
  refine a7 (Pu.g fun hb => by have b9 := hb; exact a0b) ?_
  refine f7 (Ld.g fun hb => by have b9 := hb; simp only [i7 b9]; exact (ld1 Tryz.isAgg3 (I.at1 (o := 2) (vs := [(vi a6s.fbad)]) (nb rfl) rfl))) ?_
  refine a7 (Pu.g fun hb => by have b9 := hb; simp only [i7 b9]; exact (i8 _ _ _ _ _ _)) ?_
  refine a7 (s7 _ _) ?_
  refine o0 (fun a8J => ?_) (fun a8J => ?_)
  ·replace h := h.1 a8J
   refine a7 a3D ?_
   refine f7 (ld1 Tryz.isAgg23 ((I.bring 2).at1 (o := 1) (vs := [(vs x0.V3)]) (nb rfl) rfl)) ?_
   obtain ⟨c0I, f9a, c5L, c5N, h⟩ := h
   obtain ⟨k0N, k0O, f9b, c5N⟩ := c5N
   refine a7 (a0m f9b _ _ _ _ c0I f9a) ?_
   refine f7 (ldA (vs := (g8 c5L)) Tryz.isAgg73 Tryz.sizeOf73 rfl (I.atH c5N)) ?_
   refine g9 (cap := []) (fun args w => Tryz.call85 args w) ?_
   refine l7 (Fi := [bx P4 108 (k8 a6s)]) (Fr := [bx g_7 108 (k8 P1), bx g_2 25 (k4 x0)]) I (h P4) (fun k0P d2d k0Q Q5 f9c d2e k0R f9d => ?_) (fun _ _ _ _ _ q => q.elim)
   obtain ⟨c5M, rfl, rfl, h⟩ := f9d
   refine a7 (y6 _ _ _ _ _ _) ?_
   exact hn3 _ _ _ (hm3 _ _ h).2 ⟨((IntKind.wrap .i64 (b4r + 1)), c5M, P1), d2d, rfl, rfl, (((f9c.bring 2).bring 2).bring 2), (hm3 _ _ h).1⟩
  ·replace h := h.2 a8J
   exact hx2 _ _ (hj2 a6s P1 H _ (((I.bring 2).bring 2).bring 2) h)
 refine t6 fun j1 hx1 => ?_
 obtain ⟨e8O, d4b, j4q, j4r⟩ := h
 refine B5 (J := fun n l w => ∃ (s : Int × d9 × d9) (H : Hp) , n = d4b s ∧ l = (match s with | (a5e, a6t, T5) => [(vi a5e)]) ∧ (match s with | (a5e, a6t, T5) => Inv w0 ps0 H0 H [bx P4 108 (k8 a6t), bx g_7 108 (k8 T5), bx g_2 25 (k4 x0)] w) ∧ e8O s H) ⟨_, (0, (d9.mk 0 0 0), (d9.mk 0 0 0)), H, rfl, rfl, (((b5M.bring 2).bring 2).bring 2), j4q⟩ ?_
 rintro k4T τ_105 w next4 ⟨⟨a5e, a6t, T5⟩, H, rfl, e8P, I, j4s⟩ hn4
 dsimp only at e8P I
 simp only [List.map_cons, List.map_nil, List.cons.injEq, and_true] at e8P
 have e4 := e8P
 simp only [e4]
 obtain ⟨n4, hm4, h⟩ : ∃ n4 : (Int × d9 × d9) → Hp → Prop, (∀ s' H', n4 s' H' → e8O s' H' ∧ d4b s' < d4b (a5e, a6t, T5)) ∧ a1Z x0 a5e a6t T5 H n4 K := ⟨_, fun _ _ h => h, j4r (a5e, a6t, T5) H (fun s' H' => e8O s' H' ∧ d4b s' < d4b (a5e, a6t, T5)) j4s (fun _ _ a b => ⟨a, b⟩)⟩
 unfold f5L
 unfold a1Z at h
 refine a7 a1G ?_
 refine f7 (ld1 Tryz.isAgg22 ((I.bring 2).at1 (o := 0) (vs := [(vs x0.z8)]) (nb rfl) rfl)) ?_
 refine a7 (b2t _ _ _) ?_
 refine a7 (w9 _ _ _ _ _ _) ?_
 refine a7 (Pu.g fun hb => by have b9 := hb; exact a0b) ?_
 refine f7 (Ld.g fun hb => by have b9 := hb; simp only [i7 b9]; exact (ld1 Tryz.isAgg3 (I.at1 (o := 2) (vs := [(vi a6t.fbad)]) (nb rfl) rfl))) ?_
 refine a7 (Pu.g fun hb => by have b9 := hb; simp only [i7 b9]; exact (i8 _ _ _ _ _ _)) ?_
 refine a7 (s7 _ _) ?_
 refine o0 (fun f9e => ?_) (fun f9e => ?_)
 ·replace h := h.1 f9e
  refine g9 (cap := []) (fun args w => Tryz.call84 args w) ?_
  refine l7 (Fi := [bx P4 108 (k8 a6t)]) (Fr := [bx g_7 108 (k8 T5), bx g_2 25 (k4 x0)]) I (h P4) (fun i3e b4s i3f d2f c5O e8x i3g e1N => ?_) (fun _ _ _ _ _ q => q.elim)
  obtain ⟨b1q, e8N, rfl, rfl, h⟩ := e1N
  refine a7 (y6 _ _ _ _ _ _) ?_
  exact hn4 _ _ _ (hm4 _ _ h).2 ⟨((IntKind.wrap .i64 (a5e + 1)), e8N, T5), b4s, rfl, rfl, (((c5O.bring 2).bring 2).bring 2), (hm4 _ _ h).1⟩
 ·replace h := h.2 f9e
  exact hx1 _ _ (hj1 a6t T5 H _ (((I.bring 2).bring 2).bring 2) h)
theorem b8P (x0 : m5) {H : Hp} {K : d9 → Hp → Prop} (h : a3N x0 H K) : a3K x0 H K := by
 intro w I
 refine h7g ?_
 refine b8s x0 I (fun r0 H' w' I' hk => ⟨H', _, I', r0, rfl, rfl, hk⟩) h
def a0q (k0S : Sl) (l0m : Sl) (k0T : Int) (H : Hp) (n2 : Int → Hp → Prop) (K : Bool → Hp → Prop) : Prop :=
 n2 (IntKind.wrap .i64 (k0T + 1)) H
def a0r (k0U : Sl) (k0V : Sl) (b2d : Int) (e6K : d8) (d0d : d8) (b4t : Int) (H : Hp) (n2 : Int → Hp → Prop) (n6 : Int → Hp → Prop) (K : Bool → Hp → Prop) : Prop :=
 (b4t < (d0d.i6.n : Int) →
 (0 : Int) ≤ b4t ∧ (b4t : Int) < d0d.i6.n ∧ ∃ e8Q : a8, EltH H d0d.i6 b4t 4 (b7 e8Q) ∧
 (0 : Int) ≤ b4t ∧ (b4t : Int) < e6K.i6.n ∧ ∃ e8R : a8, EltH H e6K.i6 b4t 4 (b7 e8R) ∧
 Z6 e8Q e8R H (fun (a7O : Bool) (b0d : Hp) =>
 ((!a7O) = true →
 K false b0d) ∧
 ((!a7O) = false →
 n6 (IntKind.wrap .i64 (b4t + 1)) b0d))) ∧
 (¬ (b4t < (d0d.i6.n : Int)) →
 a0q k0U k0V b2d H n2 K)
def a0s (e8S : Sl) (k0W : Sl) (k0X : Int) (g9t : d8) (g9u : d8) (H : Hp) (n2 : Int → Hp → Prop) (K : Bool → Hp → Prop) : Prop :=
 TL (0 : Int) H fun (s : Int) H n6 => a0r e8S k0W k0X g9t g9u s H n2 n6 K
def P5 (k0Y : Sl) (k0Z : Sl) (k1a : Int) (d6X : d8) (c4E : d8) (b4u : Int) (H : Hp) (n2 : Int → Hp → Prop) (n7 : Int → Hp → Prop) (K : Bool → Hp → Prop) : Prop :=
 (b4u < (c4E.m9.n : Int) →
 (0 : Int) ≤ b4u ∧ (b4u : Int) < c4E.m9.n ∧ ∃ c5P : b8, EltH H c4E.m9 b4u 4 (d6 c5P) ∧
 (0 : Int) ≤ b4u ∧ (b4u : Int) < d6X.m9.n ∧ ∃ e8T : b8, EltH H d6X.m9 b4u 4 (d6 e8T) ∧
 a2L c5P e8T H (fun (b0q : Bool) (b0N : Hp) =>
 ((!b0q) = true →
 K false b0N) ∧
 ((!b0q) = false →
 n7 (IntKind.wrap .i64 (b4u + 1)) b0N))) ∧
 (¬ (b4u < (c4E.m9.n : Int)) →
 a0s k0Y k0Z k1a d6X c4E H n2 K)
def U4 (f9f : Sl) (k1b : Sl) (k1c : Int) (v2 : d8) (u1 : d8) (H : Hp) (n2 : Int → Hp → Prop) (K : Bool → Hp → Prop) : Prop :=
 TG (((((!decide (u1.b6 = v2.b6)) || (!decide (u1.g7 = v2.g7))) || (!decide ((u1.m9.n : Int) = (v2.m9.n : Int)))) || (!decide ((u1.i6.n : Int) = (v2.i6.n : Int)))) = false) (K2 u1.v7 v2.v7 H) false H (fun (b2l : Bool) (a8d : Hp) =>
 TG ((((((!decide (u1.b6 = v2.b6)) || (!decide (u1.g7 = v2.g7))) || (!decide ((u1.m9.n : Int) = (v2.m9.n : Int)))) || (!decide ((u1.i6.n : Int) = (v2.i6.n : Int)))) || (!b2l)) = false) (K2 u1.t7 v2.t7 a8d) false a8d (fun (b4e : Bool) (b4v : Hp) =>
 (((((((!decide (u1.b6 = v2.b6)) || (!decide (u1.g7 = v2.g7))) || (!decide ((u1.m9.n : Int) = (v2.m9.n : Int)))) || (!decide ((u1.i6.n : Int) = (v2.i6.n : Int)))) || (!b2l)) || (!b4e)) = true →
 K false b4v) ∧
 (((((((!decide (u1.b6 = v2.b6)) || (!decide (u1.g7 = v2.g7))) || (!decide ((u1.m9.n : Int) = (v2.m9.n : Int)))) || (!decide ((u1.i6.n : Int) = (v2.i6.n : Int)))) || (!b2l)) || (!b4e)) = false →
 TL (0 : Int) b4v fun (s : Int) H n7 => P5 f9f k1b k1c v2 u1 s H n2 n7 K)))
def a0t (H : Hp) (K : Bool → Hp → Prop) : Prop :=
 K true H
def a0u (b2e : Sl) (c5Q : Sl) (G6 : Int) (H : Hp) (n2 : Int → Hp → Prop) (K : Bool → Hp → Prop) : Prop :=
 (G6 < (b2e.n : Int) →
 (0 : Int) ≤ G6 ∧ (G6 : Int) < b2e.n ∧ ∃ x_3 : d8, EltH H b2e G6 6 (g8 x_3) ∧
 (0 : Int) ≤ G6 ∧ (G6 : Int) < c5Q.n ∧ ∃ c3G : d8, EltH H c5Q G6 6 (g8 c3G) ∧
 U4 b2e c5Q G6 c3G x_3 H n2 K) ∧
 (¬ (G6 < (b2e.n : Int)) →
 a0t H K)
def a2b (x0 : Sl) (x1 : Sl) (H : Hp) (K : Bool → Hp → Prop) : Prop :=
 (¬ ((x0.n : Int) = (x1.n : Int)) →
 K false H) ∧
 ((x0.n : Int) = (x1.n : Int) →
 TL (0 : Int) H fun (s : Int) H n2 => a0u x0 x1 s H n2 K)
theorem b5N (x0 : Sl) (x1 : Sl) {K : Bool → Hp → Prop} (I : Inv w0 ps0 H0 H [] w) (hR : ∀ (r0 : Bool) (H' : Hp) (w' : World) (_ : Inv w0 ps0 H0 H' [] w') (_ : K r0 H'), R (vB r0) w') (h : a2b x0 x1 H K) : F30 (vs x0) (vs x1) w R E := by
 unfold a2b at h
 unfold F30
 refine a7 (W4 _ _ _) ?_
 refine a7 (W4 _ _ _) ?_
 refine a7 (M7 _ _ _ _ _ _) ?_
 refine a4f (fun e8U => ?_) (fun e8U => ?_)
 ·replace h := h.1 e8U
  exact hR false H _ I h
 ·replace h := h.2 e8U
  have hj1 : ∀ (H : Hp) (w : World) (_ : Inv w0 ps0 H0 H [] w) (_ : a0t H K), e0i w R E := by
   intro H w I h
   unfold e0i
   intro _
   unfold a0t at h
   exact hR true H _ I h
  refine t6 fun j1 hx1 => ?_
  obtain ⟨e8V, d4c, j4t, j4u⟩ := h
  refine B5 (J := fun n l w => ∃ (s : Int) (H : Hp) , n = d4c s ∧ l = [(vi s)] ∧ Inv w0 ps0 H0 H [] w ∧ e8V s H) ⟨_, 0, H, rfl, rfl, I, j4t⟩ ?_
  rintro k4U τ_146 w next2 ⟨G6, H, rfl, d8D, I, j4v⟩ hn2
  simp only [List.map_cons, List.map_nil, List.cons.injEq, and_true] at d8D
  have e5 := d8D
  simp only [e5]
  obtain ⟨n2, hm2, h⟩ : ∃ n2 : Int → Hp → Prop, (∀ s' H', n2 s' H' → e8V s' H' ∧ d4c s' < d4c G6) ∧ a0u x0 x1 G6 H n2 K := ⟨_, fun _ _ h => h, j4u G6 H (fun s' H' => e8V s' H' ∧ d4c s' < d4c G6) j4v (fun _ _ a b => ⟨a, b⟩)⟩
  unfold f5F
  unfold a0u at h
  refine a7 (W4 _ _ _) ?_
  refine a7 (w9 _ _ _ _ _ _) ?_
  refine k7 (fun c5R => ?_) (fun c5R => ?_)
  ·replace h := h.1 c5R
   have hj3 : ∀ (H : Hp) (w : World) (_ : Inv w0 ps0 H0 H [] w) (_ : a0q x0 x1 G6 H n2 K), e0j (vs x0) (vs x1) (vi G6) w next2 R E := by
    intro H w I h
    unfold e0j
    intro _
    unfold a0q at h
    refine a7 (y6 _ _ _ _ _ _) ?_
    exact hn2 _ _ _ (hm2 _ _ h).2 ⟨(IntKind.wrap .i64 (G6 + 1)), H, rfl, rfl, I, (hm2 _ _ h).1⟩
   refine t6 fun j3 hx3 => ?_
   have hj4 : ∀ (v2 : d8) (u1 : d8) (a6u : Nat) (a6v : Nat) (H : Hp) (w : World) (_ : Inv w0 ps0 H0 H [bx a6u 73 (g8 v2), bx a6v 73 (g8 u1)] w) (_ : U4 x0 x1 G6 v2 u1 H n2 K), e0p (vs x0) (vs x1) (vi G6) (Value.pointer (some ⟨a6v, 0, none⟩)) (Value.pointer (some ⟨a6u, 0, none⟩)) w j3 R E := by
    intro v2 u1 a6u a6v H w I h
    unfold e0p
    intro _
    unfold U4 at h
    refine a7 O4 ?_
    refine f7 (ld1 Tryz.isAgg3 ((I.bring 1).at1 (o := 0) (vs := [(vi u1.b6)]) (nb rfl) rfl)) ?_
    refine a7 O4 ?_
    refine f7 (ld1 Tryz.isAgg3 (I.at1 (o := 0) (vs := [(vi v2.b6)]) (nb rfl) rfl)) ?_
    refine a7 (M7 _ _ _ _ _ _) ?_
    refine a7 (Pu.g fun hb => by have b9 := hb; exact a9t) ?_
    refine f7 (Ld.g fun hb => by have b9 := hb; simp only [i7 b9]; exact (ld1 Tryz.isAgg9 ((I.bring 1).at1 (o := 1) (vs := [(Value.string u1.g7)]) (nb rfl) rfl))) ?_
    refine a7 (Pu.g fun hb => by have b9 := hb; exact a9t) ?_
    refine f7 (Ld.g fun hb => by have b9 := hb; simp only [i7 b9]; exact (ld1 Tryz.isAgg9 (I.at1 (o := 1) (vs := [(Value.string v2.g7)]) (nb rfl) rfl))) ?_
    refine a7 (Pu.g fun hb => by have b9 := hb; simp only [i7 b9]; exact (d9T _ _ _ _ _)) ?_
    refine a7 (J4 _ _) ?_
    refine a7 (Pu.g fun hb => by have b9 := hb; exact M3) ?_
    refine f7 (Ld.g fun hb => by have b9 := hb; simp only [i7 b9]; exact (ld1 Tryz.isAgg57 ((I.bring 1).at1 (o := 3) (vs := [(vs u1.m9)]) (nb rfl) rfl))) ?_
    refine a7 (Pu.g fun hb => by have b9 := hb; simp only [i7 b9]; exact (U9 _ _ _)) ?_
    refine a7 (Pu.g fun hb => by have b9 := hb; exact M3) ?_
    refine f7 (Ld.g fun hb => by have b9 := hb; simp only [i7 b9]; exact (ld1 Tryz.isAgg57 (I.at1 (o := 3) (vs := [(vs v2.m9)]) (nb rfl) rfl))) ?_
    refine a7 (Pu.g fun hb => by have b9 := hb; simp only [i7 b9]; exact (U9 _ _ _)) ?_
    refine a7 (Pu.g fun hb => by have b9 := hb; simp only [i7 b9]; exact (M7 _ _ _ _ _ _)) ?_
    refine a7 (J4 _ _) ?_
    refine a7 (Pu.g fun hb => by have b9 := hb; exact R8) ?_
    refine f7 (Ld.g fun hb => by have b9 := hb; simp only [i7 b9]; exact (ld1 Tryz.isAgg51 ((I.bring 1).at1 (o := 2) (vs := [(vs u1.i6)]) (nb rfl) rfl))) ?_
    refine a7 (Pu.g fun hb => by have b9 := hb; simp only [i7 b9]; exact (J3 _ _ _)) ?_
    refine a7 (Pu.g fun hb => by have b9 := hb; exact R8) ?_
    refine f7 (Ld.g fun hb => by have b9 := hb; simp only [i7 b9]; exact (ld1 Tryz.isAgg51 (I.at1 (o := 2) (vs := [(vs v2.i6)]) (nb rfl) rfl))) ?_
    refine a7 (Pu.g fun hb => by have b9 := hb; simp only [i7 b9]; exact (J3 _ _ _)) ?_
    refine a7 (Pu.g fun hb => by have b9 := hb; simp only [i7 b9]; exact (M7 _ _ _ _ _ _)) ?_
    refine a7 (J4 _ _) ?_
    refine a7 (Pu.g fun hb => by have b9 := hb; exact Y7) ?_
    refine f7 (Ld.g fun hb => by have b9 := hb; simp only [i7 b9]; exact (ld1 Tryz.isAgg23 ((I.bring 1).at1 (o := 4) (vs := [(vs u1.v7)]) (nb rfl) rfl))) ?_
    refine a7 (Pu.g fun hb => by have b9 := hb; exact Y7) ?_
    refine f7 (Ld.g fun hb => by have b9 := hb; simp only [i7 b9]; exact (ld1 Tryz.isAgg23 (I.at1 (o := 4) (vs := [(vs v2.v7)]) (nb rfl) rfl))) ?_
    refine X8 (D := fun f9g A6 => ∃ (b2l : Bool) (a8d : Hp) , f9g = (gv ((((!decide (u1.b6 = v2.b6)) || (!decide (u1.g7 = v2.g7))) || (!decide ((u1.m9.n : Int) = (v2.m9.n : Int)))) || (!decide ((u1.i6.n : Int) = (v2.i6.n : Int)))) false (vB b2l)) ∧ (Inv w0 ps0 H0 a8d [bx a6u 73 (g8 v2), bx a6v 73 (g8 u1)] A6) ∧ (∀ i, i < w.heap.size → ¬ inF [] i → A6.heap[i]? = w.heap[i]?) ∧ Hle H a8d ∧ (TG ((((((!decide (u1.b6 = v2.b6)) || (!decide (u1.g7 = v2.g7))) || (!decide ((u1.m9.n : Int) = (v2.m9.n : Int)))) || (!decide ((u1.i6.n : Int) = (v2.i6.n : Int)))) || (!b2l)) = false) (K2 u1.t7 v2.t7 a8d) false a8d (fun (b4e : Bool) (b4v : Hp) =>
 (((((((!decide (u1.b6 = v2.b6)) || (!decide (u1.g7 = v2.g7))) || (!decide ((u1.m9.n : Int) = (v2.m9.n : Int)))) || (!decide ((u1.i6.n : Int) = (v2.i6.n : Int)))) || (!b2l)) || (!b4e)) = true →
 K false b4v) ∧
 (((((((!decide (u1.b6 = v2.b6)) || (!decide (u1.g7 = v2.g7))) || (!decide ((u1.m9.n : Int) = (v2.m9.n : Int)))) || (!decide ((u1.i6.n : Int) = (v2.i6.n : Int)))) || (!b2l)) || (!b4e)) = false →
 TL (0 : Int) b4v fun (s : Int) H n7 => P5 x0 x1 G6 v2 u1 s H n2 n7 K)))) (fun d4d => ?_) (fun d4d => ?_) ?_
    ·replace h := h.1 d4d
     have b9 := d4d
     simp only [i7 b9]
     refine g9 (cap := []) (fun args w => Tryz.call30 args w) ?_
     refine l7 (Fi := []) (Fr := [bx a6u 73 (g8 v2), bx a6v 73 (g8 u1)]) I (h) (fun f9g a8d l0n A6 a4b d2g c3H k1d => ?_) (fun _ _ _ _ _ q => q.elim)
     obtain ⟨b2l, rfl, rfl, h⟩ := k1d
     exact ⟨b2l, a8d, by rfl, a4b, c3H, d2g, h⟩
    ·exact ⟨false, H, by rw [a4L d4d], I, fun _ _ _ => rfl, Hle.refl _, h.2 d4d⟩
    ·clear h
     rintro f9g A6 ⟨b2l, a8d, rfl, a4b, c3H, d2g, h⟩
     refine a7 (Pu.g fun hb => by have b9 := hb; simp only [i7 b9]; exact (T4 _)) ?_
     refine a7 (J4 _ _) ?_
     refine a7 (Pu.g fun hb => by have b9 := hb; exact W5) ?_
     refine f7 (Ld.g fun hb => by have b9 := hb; simp only [i7 b9]; exact (ld1 Tryz.isAgg23 ((a4b.bring 1).at1 (o := 5) (vs := [(vs u1.t7)]) (nb rfl) rfl))) ?_
     refine a7 (Pu.g fun hb => by have b9 := hb; exact W5) ?_
     refine f7 (Ld.g fun hb => by have b9 := hb; simp only [i7 b9]; exact (ld1 Tryz.isAgg23 (a4b.at1 (o := 5) (vs := [(vs v2.t7)]) (nb rfl) rfl))) ?_
     refine X8 (D := fun f9h b3E => ∃ (b4e : Bool) (b4v : Hp) , f9h = (gv (((((!decide (u1.b6 = v2.b6)) || (!decide (u1.g7 = v2.g7))) || (!decide ((u1.m9.n : Int) = (v2.m9.n : Int)))) || (!decide ((u1.i6.n : Int) = (v2.i6.n : Int)))) || (!b2l)) false (vB b4e)) ∧ (Inv w0 ps0 H0 b4v [bx a6u 73 (g8 v2), bx a6v 73 (g8 u1)] b3E) ∧ (∀ i, i < A6.heap.size → ¬ inF [] i → b3E.heap[i]? = A6.heap[i]?) ∧ Hle a8d b4v ∧ ((((((((!decide (u1.b6 = v2.b6)) || (!decide (u1.g7 = v2.g7))) || (!decide ((u1.m9.n : Int) = (v2.m9.n : Int)))) || (!decide ((u1.i6.n : Int) = (v2.i6.n : Int)))) || (!b2l)) || (!b4e)) = true →
 K false b4v) ∧
 (((((((!decide (u1.b6 = v2.b6)) || (!decide (u1.g7 = v2.g7))) || (!decide ((u1.m9.n : Int) = (v2.m9.n : Int)))) || (!decide ((u1.i6.n : Int) = (v2.i6.n : Int)))) || (!b2l)) || (!b4e)) = false →
 TL (0 : Int) b4v fun (s : Int) H n7 => P5 x0 x1 G6 v2 u1 s H n2 n7 K))) (fun d4e => ?_) (fun d4e => ?_) ?_
     ·replace h := h.1 d4e
      have b9 := d4e
      simp only [i7 b9]
      refine g9 (cap := []) (fun args w => Tryz.call30 args w) ?_
      refine l7 (Fi := []) (Fr := [bx a6u 73 (g8 v2), bx a6v 73 (g8 u1)]) a4b (h) (fun f9h b4v l0o b3E b4w d6Y d6Z k1e => ?_) (fun _ _ _ _ _ q => q.elim)
      obtain ⟨b4e, rfl, rfl, h⟩ := k1e
      exact ⟨b4e, b4v, by rfl, b4w, d6Z, d6Y, h⟩
     ·exact ⟨false, a8d, by rw [a4L d4e], a4b, fun _ _ _ => rfl, Hle.refl _, h.2 d4e⟩
     ·clear h
      rintro f9h b3E ⟨b4e, b4v, rfl, b4w, d6Z, d6Y, h⟩
      refine a7 (Pu.g fun hb => by have b9 := hb; simp only [i7 b9]; exact (T4 _)) ?_
      refine a7 (J4 _ _) ?_
      refine o0 (fun b5O => ?_) (fun b5O => ?_)
      ·replace h := h.1 b5O
       exact hR false b4v _ b4w.drop.drop h
      ·replace h := h.2 b5O
       have hj5 : ∀ (H : Hp) (w : World) (_ : Inv w0 ps0 H0 H [bx a6u 73 (g8 v2), bx a6v 73 (g8 u1)] w) (_ : a0s x0 x1 G6 v2 u1 H n2 K), e0o (vs x0) (vs x1) (vi G6) (Value.pointer (some ⟨a6v, 0, none⟩)) (Value.pointer (some ⟨a6u, 0, none⟩)) w j3 R E := by
        intro H w I h
        unfold e0o
        intro _
        unfold a0s at h
        obtain ⟨e8W, d4f, j4w, j4x⟩ := h
        refine B5 (J := fun n l w => ∃ (s : Int) (H : Hp) , n = d4f s ∧ l = [(vi s)] ∧ Inv w0 ps0 H0 H [bx a6u 73 (g8 v2), bx a6v 73 (g8 u1)] w ∧ e8W s H) ⟨_, 0, H, rfl, rfl, ((I.bring 1).bring 1), j4w⟩ ?_
        rintro k4V τ_109 w next6 ⟨b4t, H, rfl, g4H, I, j4y⟩ hn6
        simp only [List.map_cons, List.map_nil, List.cons.injEq, and_true] at g4H
        have e9 := g4H
        simp only [e9]
        obtain ⟨n6, hm6, h⟩ : ∃ n6 : Int → Hp → Prop, (∀ s' H', n6 s' H' → e8W s' H' ∧ d4f s' < d4f b4t) ∧ a0r x0 x1 G6 v2 u1 b4t H n2 n6 K := ⟨_, fun _ _ h => h, j4x b4t H (fun s' H' => e8W s' H' ∧ d4f s' < d4f b4t) j4y (fun _ _ a b => ⟨a, b⟩)⟩
        unfold f5D
        unfold a0r at h
        refine a7 R8 ?_
        refine f7 (ld1 Tryz.isAgg51 ((I.bring 1).at1 (o := 2) (vs := [(vs u1.i6)]) (nb rfl) rfl)) ?_
        refine a7 (J3 _ _ _) ?_
        refine a7 (w9 _ _ _ _ _ _) ?_
        refine k7 (fun e8X => ?_) (fun e8X => ?_)
        ·replace h := h.1 e8X
         refine a5z I fun f9i c8P => ?_
         refine q9 R8 ?_
         refine q9 R8 ?_
         refine A5 (ld1 Tryz.isAgg51 ((c8P.bring 1).at1 (o := 2) (vs := [(vs u1.i6)]) (nb rfl) rfl)) ?_
         obtain ⟨f9j, k1f, e8Q, e1O, h⟩ := h
         obtain ⟨l0p, l0q, f9k, e1O⟩ := e1O
         refine q9 (A0 f9k _ _ _ _ f9j k1f) ?_
         refine A5 (ldA (vs := (b7 e8Q)) Tryz.isAgg53 Tryz.sizeOf53 rfl (c8P.atH e1O)) ?_
         refine A5 (ld1 Tryz.isAgg51 (c8P.at1 (o := 2) (vs := [(vs v2.i6)]) (nb rfl) rfl)) ?_
         obtain ⟨c5S, e1P, e8R, b8Q, h⟩ := h
         obtain ⟨l0r, l0s, c5T, b8Q⟩ := b8Q
         refine q9 (A0 c5T _ _ _ _ c5S e1P) ?_
         refine A5 (ldA (vs := (b7 e8R)) Tryz.isAgg53 Tryz.sizeOf53 rfl (c8P.atH b8Q)) ?_
         refine g9 (cap := []) (fun args w => Tryz.call53 args w) ?_
         refine l7 (Fi := []) (Fr := [bx a6u 73 (g8 v2), bx a6v 73 (g8 u1)]) c8P (h) (fun e8Y b0d k1g V4 c5U e8Z f9l f9m => ?_) (fun _ _ _ _ _ q => q.elim)
         obtain ⟨a7O, rfl, rfl, h⟩ := f9m
         refine q9 (T4 _) ?_
         refine o0 (fun e9a => ?_) (fun e9a => ?_)
         ·replace h := h.1 e9a
          exact hR false b0d _ c5U.drop.drop h
         ·replace h := h.2 e9a
          refine a7 (y6 _ _ _ _ _ _) ?_
          exact hn6 _ _ _ (hm6 _ _ h).2 ⟨(IntKind.wrap .i64 (b4t + 1)), b0d, rfl, rfl, ((c5U.bring 1).bring 1), (hm6 _ _ h).1⟩
        ·replace h := h.2 e8X
         exact hx3 _ _ (hj3 H _ I.drop.drop h)
       refine t6 fun j5 hx5 => ?_
       obtain ⟨e9b, d4g, j4z, j4A⟩ := h
       refine B5 (J := fun n l w => ∃ (s : Int) (H : Hp) , n = d4g s ∧ l = [(vi s)] ∧ Inv w0 ps0 H0 H [bx a6u 73 (g8 v2), bx a6v 73 (g8 u1)] w ∧ e9b s H) ⟨_, 0, b4v, rfl, rfl, ((b4w.bring 1).bring 1), j4z⟩ ?_
       rintro k4W τ_118 w next7 ⟨b4u, H, rfl, e9c, I, j4B⟩ hn7
       simp only [List.map_cons, List.map_nil, List.cons.injEq, and_true] at e9c
       have e8 := e9c
       simp only [e8]
       obtain ⟨n7, hm7, h⟩ : ∃ n7 : Int → Hp → Prop, (∀ s' H', n7 s' H' → e9b s' H' ∧ d4g s' < d4g b4u) ∧ P5 x0 x1 G6 v2 u1 b4u H n2 n7 K := ⟨_, fun _ _ h => h, j4A b4u H (fun s' H' => e9b s' H' ∧ d4g s' < d4g b4u) j4B (fun _ _ a b => ⟨a, b⟩)⟩
       unfold f5E
       unfold P5 at h
       refine a7 M3 ?_
       refine f7 (ld1 Tryz.isAgg57 ((I.bring 1).at1 (o := 3) (vs := [(vs u1.m9)]) (nb rfl) rfl)) ?_
       refine a7 (U9 _ _ _) ?_
       refine a7 (w9 _ _ _ _ _ _) ?_
       refine k7 (fun c5V => ?_) (fun c5V => ?_)
       ·replace h := h.1 c5V
        refine a5z I fun c8m c0J => ?_
        refine q9 M3 ?_
        refine q9 M3 ?_
        refine A5 (ld1 Tryz.isAgg57 ((c0J.bring 1).at1 (o := 3) (vs := [(vs u1.m9)]) (nb rfl) rfl)) ?_
        obtain ⟨c0K, e1Q, c5P, c0I, h⟩ := h
        obtain ⟨k1h, k1i, e1R, c0I⟩ := c0I
        refine q9 (S7 e1R _ _ _ _ c0K e1Q) ?_
        refine A5 (ldA (vs := (d6 c5P)) Tryz.isAgg59 Tryz.sizeOf59 rfl (c0J.atH c0I)) ?_
        refine A5 (ld1 Tryz.isAgg57 (c0J.at1 (o := 3) (vs := [(vs v2.m9)]) (nb rfl) rfl)) ?_
        obtain ⟨k1j, k1k, e8T, d7a, h⟩ := h
        obtain ⟨i3h, l0t, d7b, d7a⟩ := d7a
        refine q9 (S7 d7b _ _ _ _ k1j k1k) ?_
        refine A5 (ldA (vs := (d6 e8T)) Tryz.isAgg59 Tryz.sizeOf59 rfl (c0J.atH d7a)) ?_
        refine g9 (cap := []) (fun args w => Tryz.call52 args w) ?_
        refine l7 (Fi := []) (Fr := [bx a6u 73 (g8 v2), bx a6v 73 (g8 u1)]) c0J (h) (fun e9d b0N k1l T2 b7b f9n e1S f9o => ?_) (fun _ _ _ _ _ q => q.elim)
        obtain ⟨b0q, rfl, rfl, h⟩ := f9o
        refine q9 (T4 _) ?_
        refine o0 (fun c0L => ?_) (fun c0L => ?_)
        ·replace h := h.1 c0L
         exact hR false b0N _ b7b.drop.drop h
        ·replace h := h.2 c0L
         refine a7 (y6 _ _ _ _ _ _) ?_
         exact hn7 _ _ _ (hm7 _ _ h).2 ⟨(IntKind.wrap .i64 (b4u + 1)), b0N, rfl, rfl, ((b7b.bring 1).bring 1), (hm7 _ _ h).1⟩
       ·replace h := h.2 c5V
        exact hx5 _ _ (hj5 H _ ((I.bring 1).bring 1) h)
   refine t6 fun j4 hx4 => ?_
   refine a5z I fun w_1 I_2 => ?_
   obtain ⟨h_6, h_7, x_3, h_9, h⟩ := h
   obtain ⟨g_4, o_5, h_8, h_9⟩ := h_9
   refine q9 (a0m h_8 _ _ _ _ h_6 h_7) ?_
   obtain ⟨f9p, f9q, c3G, a7J, h⟩ := h
   obtain ⟨l0u, l0v, k1m, a7J⟩ := a7J
   refine q9 (a0m k1m _ _ _ _ f9p f9q) ?_
   refine A5 (ldA (vs := (g8 x_3)) Tryz.isAgg73 Tryz.sizeOf73 rfl (I_2.atH h_9)) ?_
   refine A5 (ldA (vs := (g8 c3G)) Tryz.isAgg73 Tryz.sizeOf73 rfl (I_2.atH a7J)) ?_
   refine ⟨?_, ?_⟩
   ·refine z7 I_2 Tryz.zeroValue73 (cs := [(vi 0), (eS), (nS), (nS), (nS), (nS)]) rfl fun k1n a1R b3L d7c => ?_
    refine ⟨(d7c _ (I_2.M8 a7J)), (d7c _ (I_2.M8 h_9)), ?_⟩
    refine z7 b3L Tryz.zeroValue73 (cs := [(vi 0), (eS), (nS), (nS), (nS), (nS)]) rfl fun k1o u4 a8K d2h => ?_
    refine ⟨(d2h _ (b3L.M8 a7J)), (d2h _ (b3L.M8 h_9)), ?_⟩
    refine m6 (a8K.bring 1) Tryz.sizeOf73 (vs := (g8 x_3)) (cs' := (g8 x_3)) rfl rfl (nb rfl) rfl rfl fun a3k c8Q f9r => ?_
    refine ⟨(f9r _ (Inv.e7U (a8K.bring 1) a7J)), ?_⟩
    refine m6 (c8Q.bring 1) Tryz.sizeOf73 (vs := (g8 c3G)) (cs' := (g8 c3G)) rfl rfl (nb rfl) rfl rfl fun C4 b8O d6S => ?_
    exact hx4 _ _ (hj4 c3G x_3 k1o k1n H _ ((b8O.bring 1).bring 1) h)
   ·refine z7 I_2 Tryz.zeroValue73 (cs := [(vi 0), (eS), (nS), (nS), (nS), (nS)]) rfl fun j4C a6J e9e g4I => ?_
    refine ⟨(g4I _ (I_2.M8 a7J)), (g4I _ (I_2.M8 h_9)), ?_⟩
    refine z7 e9e Tryz.zeroValue73 (cs := [(vi 0), (eS), (nS), (nS), (nS), (nS)]) rfl fun j4D e9f d8E e9g => ?_
    refine ⟨(e9g _ (e9e.M8 a7J)), (e9g _ (e9e.M8 h_9)), ?_⟩
    refine m6 d8E Tryz.sizeOf73 (vs := (g8 x_3)) (cs' := (g8 x_3)) rfl rfl (nb rfl) rfl rfl fun a7q j4E j4F => ?_
    refine ⟨(j4F _ (Inv.e7U d8E a7J)), ?_⟩
    refine m6 (j4E.bring 1) Tryz.sizeOf73 (vs := (g8 c3G)) (cs' := (g8 c3G)) rfl rfl (nb rfl) rfl rfl fun g4J j4G k4X => ?_
    exact hx4 _ _ (hj4 c3G x_3 j4C j4D H _ ((j4G.bring 1).bring 1) h)
  ·replace h := h.2 c5R
   exact hx1 _ _ (hj1 H _ I h)
theorem b6y (x0 : Sl) (x1 : Sl) {H : Hp} {K : Bool → Hp → Prop} (h : a2b x0 x1 H K) : K2 x0 x1 H K := by
 intro w I
 refine h6I ?_
 refine b5N x0 x1 I (fun r0 H' w' I' hk => ⟨H', _, I', r0, rfl, rfl, hk⟩) h
def a5f (x0 : M2) (H : Hp) (K : Sl → Hp → Prop) : Prop :=
 C3 x0.u2.i4 H (fun (C1 : Sl) (H_6 : Hp) =>
 K C1 H_6)
theorem b9s (x0 : M2) {K : Sl → Hp → Prop} (I : Inv w0 ps0 H0 H [] w) (hR : ∀ (r0 : Sl) (H' : Hp) (w' : World) (_ : Inv w0 ps0 H0 H' [] w') (_ : K r0 H'), R (vs r0) w') (h : a5f x0 H K) : e8y (Value.agg (b7 x0.u2).toArray) w R E := by
 unfold a5f at h
 unfold e8y
 refine J5 I (cs := (b7 x0.u2)) rfl fun g_2 w_3 I_4 k_5 => ?_
 refine a7 a4K ?_
 refine a7 v8 ?_
 refine f7 (ld1 Tryz.isAgg51 (I_4.at1 (o := 3) (vs := [(vs x0.u2.i4)]) (nb rfl) rfl)) ?_
 refine g9 (cap := []) (fun args w => Tryz.call189 args w) ?_
 refine l7 (Fi := []) (Fr := [bx g_2 136 (b7 x0.u2)]) I_4 (h) (fun b7c H_6 b5P w_7 I_8 b7d k_9 a6w => ?_) (fun _ _ _ _ _ q => q.elim)
 obtain ⟨C1, rfl, rfl, h⟩ := a6w
 exact hR C1 H_6 _ I_8.drop h
theorem c0M (x0 : M2) {H : Hp} {K : Sl → Hp → Prop} (h : a5f x0 H K) : b2F x0 H K := by
 intro w I
 refine g8z ?_
 refine b9s x0 I (fun r0 H' w' I' hk => ⟨H', _, I', r0, rfl, rfl, hk⟩) h
def a8e (x0 : b8) (H : Hp) (K : i5 → Hp → Prop) : Prop :=
 K (i5.Q1 (R7.mk x0)) H
theorem c4F (x0 : b8) {K : i5 → Hp → Prop} (I : Inv w0 ps0 H0 H [] w) (hR : ∀ (r0 : i5) (H' : Hp) (w' : World) (_ : Inv w0 ps0 H0 H' [] w') (_ : K r0 H'), R (E7 r0) w') (h : a8e x0 H K) : e8F (Value.agg (d6 x0).toArray) w R E := by
 unfold a8e at h
 unfold e8F
 refine J5 I (cs := (d6 x0)) rfl fun g_2 w_3 I_4 k_5 => ?_
 refine f7 (ldA Tryz.isAgg59 Tryz.sizeOf59 rfl (I_4.at1 (o := 0) (vs := (d6 x0)) (nb rfl) rfl)) ?_
 refine a7 (c8h _ _ _ _ _ _ _ _) ?_
 refine a7 (c4n (R7.mk x0)) ?_
 exact hR (i5.Q1 (R7.mk x0)) H _ I_4.drop h
theorem c5W (x0 : b8) {H : Hp} {K : i5 → Hp → Prop} (h : a8e x0 H K) : b5L x0 H K := by
 intro w I
 refine g8M ?_
 refine c4F x0 I (fun r0 H' w' I' hk => ⟨H', _, I', r0, rfl, rfl, hk⟩) h
def a5g (x0 : R7) (H : Hp) (K : Sl → Hp → Prop) : Prop :=
 C3 x0.t1.i6 H (fun (o6 : Sl) (H_8 : Hp) =>
 I8 x0.t1.p8 H_8 (fun (o7 : Sl) (b2f : Hp) =>
 ∀ (b7e : Sl) (a8d : Hp), Hle b2f a8d → SlH a8d 1 csl b7e [o6, o7] → b7e.n ≤ b7e.c →
 I2 b7e a8d (fun (d0e : Sl) (b8R : Hp) =>
 K d0e b8R)))
theorem b9t (x0 : R7) {K : Sl → Hp → Prop} (I : Inv w0 ps0 H0 H [] w) (hR : ∀ (r0 : Sl) (H' : Hp) (w' : World) (_ : Inv w0 ps0 H0 H' [] w') (_ : K r0 H'), R (vs r0) w') (h : a5g x0 H K) : e8D (Value.agg (d6 x0.t1).toArray) w R E := by
 unfold a5g at h
 unfold e8D
 refine J5 I (cs := (d6 x0.t1)) rfl fun g_2 w_3 I_4 k_5 => ?_
 refine a5z I_4 fun w_6 I_7 => ?_
 refine q9 a6I ?_
 refine q9 M4 ?_
 refine q9 a6I ?_
 refine q9 E5 ?_
 refine A5 (ld1 Tryz.isAgg51 (I_7.at1 (o := 2) (vs := [(vs x0.t1.i6)]) (nb rfl) rfl)) ?_
 refine A5 (ld1 Tryz.isAgg57 (I_7.at1 (o := 3) (vs := [(vs x0.t1.p8)]) (nb rfl) rfl)) ?_
 refine g9 (cap := []) (fun args w => Tryz.call189 args w) ?_
 refine l7 (Fi := []) (Fr := [bx g_2 143 (d6 x0.t1)]) I_7 (h) (fun f9s H_8 f9t w_9 b2N c5X c0N d2i => ?_) (fun _ _ _ _ _ q => q.elim)
 obtain ⟨o6, rfl, rfl, h⟩ := d2i
 refine ⟨(c0N _ I_7.lt1 (Inv.a3h (Fi := []) I_7)), ?_⟩
 refine g9 (cap := []) (fun args w => Tryz.call193 args w) ?_
 refine l7 (Fi := []) (Fr := [bx g_2 143 (d6 x0.t1)]) b2N (h) (fun f9u b2f f9v s8 c0O f9w d7d d2j => ?_) (fun _ _ _ _ _ q => q.elim)
 obtain ⟨o7, rfl, rfl, h⟩ := d2j
 refine a5A (e := 137) (c := csl) (xs := [o6, o7]) c0O (d9Z _ _ _ _ _ _) rfl rfl d8w d8x (nb rfl) fun b7e e1T a4y e1U b8O d6S => ?_
 obtain ⟨a8d, d2k, c5C, e1V, e1W⟩ := Inv.freezeC b8O e1U (by decide)
 replace h := h b7e a8d c5C e1V e1W
 refine g9 (cap := []) (fun args w => Tryz.call75 args w) ?_
 refine l7 (Fi := []) (Fr := [bx g_2 143 (d6 x0.t1)]) d2k (h) (fun k1p b8R k1q b8J a9Y k1r k1s f9x => ?_) (fun _ _ _ _ _ q => q.elim)
 obtain ⟨d0e, rfl, rfl, h⟩ := f9x
 exact hR d0e b8R _ a9Y.drop h
theorem c0P (x0 : R7) {H : Hp} {K : Sl → Hp → Prop} (h : a5g x0 H K) : b2G x0 H K := by
 intro w I
 refine g8I ?_
 refine b9t x0 I (fun r0 H' w' I' hk => ⟨H', _, I', r0, rfl, rfl, hk⟩) h
def a5K (x0 : a0k) (H : Hp) (K : Bool → Hp → Prop) : Prop :=
 K ((decide (0 ≤ x0.a0l.a1F)) && (decide (x0.a0l.a1F ≤ 2147483647))) H
theorem c0Q (x0 : a0k) {K : Bool → Hp → Prop} (I : Inv w0 ps0 H0 H [] w) (hR : ∀ (r0 : Bool) (H' : Hp) (w' : World) (_ : Inv w0 ps0 H0 H' [] w') (_ : K r0 H'), R (vB r0) w') (h : a5K x0 H K) : e8G (Value.agg (y8 x0.a0l).toArray) w R E := by
 unfold a5K at h
 unfold e8G
 refine J5 I (cs := (y8 x0.a0l)) rfl fun g_2 w_3 I_4 k_5 => ?_
 refine a7 c3v ?_
 refine a7 b9m ?_
 refine f7 (ld1 Tryz.isAgg3 (I_4.at1 (o := 1) (vs := [(vi x0.a0l.a1F)]) (nb rfl) rfl)) ?_
 refine a7 (a7M _ _ _ _ _ _) ?_
 refine a7 (Pu.g fun hb => by have b9 := hb; exact c3v) ?_
 refine a7 (Pu.g fun hb => by have b9 := hb; simp only [i7 b9]; exact b9m) ?_
 refine f7 (Ld.g fun hb => by have b9 := hb; simp only [i7 b9]; exact (ld1 Tryz.isAgg3 (I_4.at1 (o := 1) (vs := [(vi x0.a0l.a1F)]) (nb rfl) rfl))) ?_
 refine a7 (Pu.g fun hb => by have b9 := hb; simp only [i7 b9]; exact (b3S _ _ _ _ _ _)) ?_
 refine a7 (s7 _ _) ?_
 exact hR ((decide (0 ≤ x0.a0l.a1F)) && (decide (x0.a0l.a1F ≤ 2147483647))) H _ I_4.drop h
theorem c2g (x0 : a0k) {H : Hp} {K : Bool → Hp → Prop} (h : a5K x0 H K) : b3C x0 H K := by
 intro w I
 refine g8O ?_
 refine c0Q x0 I (fun r0 H' w' I' hk => ⟨H', _, I', r0, rfl, rfl, hk⟩) h
end Go.Proofs.YtnhkdkcgdcgmdaaGreatDoor
