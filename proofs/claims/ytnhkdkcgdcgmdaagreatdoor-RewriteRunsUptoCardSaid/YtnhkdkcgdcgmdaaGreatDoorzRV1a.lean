/- Typed formulas of the program's functions, and the theorems that the contracts follow from them; printed by lift.py off the code. -/
import Derived.Test.YtnhkdkcgdcgmdaaGreatDoorzRV1
namespace Go.Proofs.YtnhkdkcgdcgmdaaGreatDoor
open Go.RowKit
set_option maxRecDepth 100000
set_option maxHeartbeats 2000000
variable {w0 w : World} {ps0 : Nat → Prop} {H0 H : Hp} {R : RT} {E : Pan}
def a6L (H : Hp) (K : Bool → Hp → Prop) : Prop :=
 K true H
def S7 (b6w : ByteArray) (P3 : Nat) (H : Hp) (n2 : Nat → Hp → Prop) (K : Bool → Hp → Prop) : Prop :=
 (P3 < b6w.size →
 a7o ((Utf8.decode b6w P3).1 : Int) H (fun (a4l : Bool) (a9n : Hp) =>
 TG ((!(!a4l) && (decide (((P3 : Nat) : Int) = 0))) = true) (a4K ((Utf8.decode b6w P3).1 : Int) a9n) 0 a9n (fun (a5N : Int) (a6m : Hp) =>
 (((!a4l) || ((decide (((P3 : Nat) : Int) = 0)) && (!decide (a5N = 3)))) = true →
 K false a6m) ∧
 (((!a4l) || ((decide (((P3 : Nat) : Int) = 0)) && (!decide (a5N = 3)))) = false →
 n2 (P3 + (Utf8.decode b6w P3).2) a6m)))) ∧
 (¬ (P3 < b6w.size) →
 a6L H K)
def a5O (x0 : ByteArray) (H : Hp) (K : Bool → Hp → Prop) : Prop :=
 TG ((decide (x0 = ⟨#[]⟩)) = false) (a7i x0 H) false H (fun (M7 : Bool) (H_1 : Hp) =>
 TG (((decide (x0 = ⟨#[]⟩)) || (!M7)) = false) (a5K x0 H_1) false H_1 (fun (L8 : Bool) (a5z : Hp) =>
 TG ((((decide (x0 = ⟨#[]⟩)) || (!M7)) || L8) = false) (a4e x0 a5z) false a5z (fun (a2t : Bool) (a4m : Hp) =>
 (((((decide (x0 = ⟨#[]⟩)) || (!M7)) || L8) || a2t) = true →
 K false a4m) ∧
 (((((decide (x0 = ⟨#[]⟩)) || (!M7)) || L8) || a2t) = false →
 TL (0 : Nat) a4m fun (s : Nat) H n2 => S7 x0 s H n2 K))))
theorem b9L (x0 : ByteArray) {K : Bool → Hp → Prop} (I : Inv w0 ps0 H0 H [] w) (hR : ∀ (r0 : Bool) (H' : Hp) (w' : World) (_ : Inv w0 ps0 H0 H' [] w') (_ : K r0 H'), R (vB r0) w') (h : a5O x0 H K) : d7j (Value.string x0) w R E := by
 unfold a5O at h
 unfold d7j
 refine a7 (a4b _ _ _ _ _) ?_
 simp only [O5]
 refine a5c (D := fun v_5 w_2 => ∃ (M7 : Bool) (H_1 : Hp) , v_5 = (gv (decide (x0 = ⟨#[]⟩)) false (vB M7)) ∧ (Inv w0 ps0 H0 H_1 [] w_2) ∧ (∀ i, i < w.heap.size → ¬ inF [] i → w_2.heap[i]? = w.heap[i]?) ∧ Hle H H_1 ∧ (TG (((decide (x0 = ⟨#[]⟩)) || (!M7)) = false) (a5K x0 H_1) false H_1 (fun (L8 : Bool) (a5z : Hp) =>
 TG ((((decide (x0 = ⟨#[]⟩)) || (!M7)) || L8) = false) (a4e x0 a5z) false a5z (fun (a2t : Bool) (a4m : Hp) =>
 (((((decide (x0 = ⟨#[]⟩)) || (!M7)) || L8) || a2t) = true →
 K false a4m) ∧
 (((((decide (x0 = ⟨#[]⟩)) || (!M7)) || L8) || a2t) = false →
 TL (0 : Nat) a4m fun (s : Nat) H n2 => S7 x0 s H n2 K))))) (fun c4J => ?_) (fun c4J => ?_) ?_
 ·replace h := h.1 c4J
  have i5 := c4J
  simp only [s8 i5]
  refine d8 (cap := []) (fun args w => Tryz.call162 args w) ?_
  refine o0 (Fi := []) (Fr := []) I (h) (fun v_5 H_1 F_6 w_2 I_3 l_8 k_4 q_7 => ?_) (fun _ _ _ _ _ q => q.elim)
  obtain ⟨M7, rfl, rfl, h⟩ := q_7
  exact ⟨M7, H_1, by rfl, I_3, k_4, l_8, h⟩
 ·exact ⟨false, H, by rw [a9g c4J], I, fun _ _ _ => rfl, Hle.refl _, h.2 c4J⟩
 ·clear h
  rintro v_5 w_2 ⟨M7, H_1, rfl, I_3, k_4, l_8, h⟩
  refine a7 (Pu.g fun hb => by have i5 := hb; simp only [s8 i5]; exact (a0X _)) ?_
  refine a7 (a1d _ _) ?_
  simp only [O5]
  refine a5c (D := fun d0V R1 => ∃ (L8 : Bool) (a5z : Hp) , d0V = (gv ((decide (x0 = ⟨#[]⟩)) || (!M7)) false (vB L8)) ∧ (Inv w0 ps0 H0 a5z [] R1) ∧ (∀ i, i < w_2.heap.size → ¬ inF [] i → R1.heap[i]? = w_2.heap[i]?) ∧ Hle H_1 a5z ∧ (TG ((((decide (x0 = ⟨#[]⟩)) || (!M7)) || L8) = false) (a4e x0 a5z) false a5z (fun (a2t : Bool) (a4m : Hp) =>
 (((((decide (x0 = ⟨#[]⟩)) || (!M7)) || L8) || a2t) = true →
 K false a4m) ∧
 (((((decide (x0 = ⟨#[]⟩)) || (!M7)) || L8) || a2t) = false →
 TL (0 : Nat) a4m fun (s : Nat) H n2 => S7 x0 s H n2 K)))) (fun d0W => ?_) (fun d0W => ?_) ?_
  ·replace h := h.1 d0W
   have i5 := d0W
   simp only [s8 i5]
   refine d8 (cap := []) (fun args w => Tryz.call163 args w) ?_
   refine o0 (Fi := []) (Fr := []) I_3 (h) (fun d0V a5z g1Y R1 D2 c2C b5A d0X => ?_) (fun _ _ _ _ _ q => q.elim)
   obtain ⟨L8, rfl, rfl, h⟩ := d0X
   exact ⟨L8, a5z, by rfl, D2, b5A, c2C, h⟩
  ·exact ⟨false, H_1, by rw [a9g d0W], I_3, fun _ _ _ => rfl, Hle.refl _, h.2 d0W⟩
  ·clear h
   rintro d0V R1 ⟨L8, a5z, rfl, D2, b5A, c2C, h⟩
   refine a7 (a1d _ _) ?_
   simp only [O5]
   refine a5c (D := fun d7G u9 => ∃ (a2t : Bool) (a4m : Hp) , d7G = (gv (((decide (x0 = ⟨#[]⟩)) || (!M7)) || L8) false (vB a2t)) ∧ (Inv w0 ps0 H0 a4m [] u9) ∧ (∀ i, i < R1.heap.size → ¬ inF [] i → u9.heap[i]? = R1.heap[i]?) ∧ Hle a5z a4m ∧ ((((((decide (x0 = ⟨#[]⟩)) || (!M7)) || L8) || a2t) = true →
 K false a4m) ∧
 (((((decide (x0 = ⟨#[]⟩)) || (!M7)) || L8) || a2t) = false →
 TL (0 : Nat) a4m fun (s : Nat) H n2 => S7 x0 s H n2 K))) (fun d0Y => ?_) (fun d0Y => ?_) ?_
   ·replace h := h.1 d0Y
    have i5 := d0Y
    simp only [s8 i5]
    refine d8 (cap := []) (fun args w => Tryz.call164 args w) ?_
    refine o0 (Fi := []) (Fr := []) D2 (h) (fun d7G a4m h8y u9 a1U d0Z b9M e5j => ?_) (fun _ _ _ _ _ q => q.elim)
    obtain ⟨a2t, rfl, rfl, h⟩ := e5j
    exact ⟨a2t, a4m, by rfl, a1U, b9M, d0Z, h⟩
   ·exact ⟨false, a5z, by rw [a9g d0Y], D2, fun _ _ _ => rfl, Hle.refl _, h.2 d0Y⟩
   ·clear h
    rintro d7G u9 ⟨a2t, a4m, rfl, a1U, b9M, d0Z, h⟩
    refine a7 (a1d _ _) ?_
    refine u0 (fun e5k => ?_) (fun e5k => ?_)
    ·replace h := h.1 e5k
     exact hR false a4m _ a1U h
    ·replace h := h.2 e5k
     have hj1 : ∀ (H : Hp) (w : World) (_ : Inv w0 ps0 H0 H [] w) (_ : a6L H K), c6y w R E := by
      intro H w I h
      unfold c6y
      intro _
      unfold a6L at h
      exact hR true H _ I h
     refine A7 fun j1 hx1 => ?_
     refine d5G Tryz.underlying9 x0 a1U fun d7H K1 d1a g1Z => ?_
     obtain ⟨e5l, d1b, h8z, h8A⟩ := h
     refine M6 (J := fun n l w => ∃ (s : Nat) (H : Hp) , n = d1b s ∧ l = [] ∧ Inv w0 ps0 H0 H [itf d7H x0 s] w ∧ e5l s H) ⟨_, 0, a4m, rfl, rfl, d1a, h8z⟩ ?_
     rintro i4u τ_94 w next2 ⟨P3, H, rfl, h8B, I, h8C⟩ hn2
     clear h8B
     obtain ⟨n2, hm2, h⟩ : ∃ n2 : Nat → Hp → Prop, (∀ s' H', n2 s' H' → e5l s' H' ∧ d1b s' < d1b P3) ∧ S7 x0 P3 H n2 K := ⟨_, fun _ _ h => h, h8A P3 H (fun s' H' => e5l s' H' ∧ d1b s' < d1b P3) h8C (fun _ _ a b => ⟨a, b⟩)⟩
     unfold d5P
     unfold S7 at h
     refine e1k I (fun b3A b5B e5m e5n => ?_) (fun b3A => ?_)
     ·replace h := h.1 b3A
      refine a7 (m9 _ _ (vB true) rfl) ?_
      refine u0 (fun e => ?_) (fun e => by cases e)
      refine a7 (m9 _ _ (vi ((P3 : Nat) : Int)) rfl) ?_
      refine a7 (m9 _ _ (Value.int .i32 ((Utf8.decode x0 P3).1 : Int)) rfl) ?_
      refine d8 (cap := []) (fun args w => Tryz.call165 args w) ?_
      refine o0 (Fi := []) (Fr := [itf d7H x0 (P3 + (Utf8.decode x0 P3).2)]) e5m (h) (fun c6O a9n e5o Q3 b3B e5p d7I c2D => ?_) (fun _ _ _ _ _ q => q.elim)
      obtain ⟨a4l, rfl, rfl, h⟩ := c2D
      refine a7 (a0X _) ?_
      simp only [O5]
      refine a7 (Pu.g fun hb => by have i5 := hb; simp only [s8 i5]; exact (o2 _ _ _ _ _ _)) ?_
      simp only [e9E, f7B]
      refine b4V (b3a _ _ _) ?_
      refine a5c (D := fun d1c a7O => ∃ (a5N : Int) (a6m : Hp) , d1c = (gv (!(!a4l) && (decide (((P3 : Nat) : Int) = 0))) true (vi a5N)) ∧ (Inv w0 ps0 H0 a6m [itf d7H x0 (P3 + (Utf8.decode x0 P3).2)] a7O) ∧ (∀ i, i < Q3.heap.size → ¬ inF [] i → a7O.heap[i]? = Q3.heap[i]?) ∧ Hle a9n a6m ∧ ((((!a4l) || ((decide (((P3 : Nat) : Int) = 0)) && (!decide (a5N = 3)))) = true →
 K false a6m) ∧
 (((!a4l) || ((decide (((P3 : Nat) : Int) = 0)) && (!decide (a5N = 3)))) = false →
 n2 (P3 + (Utf8.decode x0 P3).2) a6m))) (fun c6P => ?_) (fun c6P => ?_) ?_
      ·replace h := h.1 c6P
       obtain ⟨i5, d1d⟩ := c0Y c6P
       simp only [s8 c6P]
       refine d8 (cap := []) (fun args w => Tryz.call166 args w) ?_
       refine o0 (Fi := []) (Fr := [itf d7H x0 (P3 + (Utf8.decode x0 P3).2)]) b3B (h) (fun d1c a6m g2a a7O b9N c6Q d7J d1e => ?_) (fun _ _ _ _ _ q => q.elim)
       obtain ⟨a5N, rfl, rfl, h⟩ := d1e
       exact ⟨a5N, a6m, by rfl, b9N, d7J, c6Q, h⟩
      ·exact ⟨0, a9n, by rw [a9g c6P], b3B, fun _ _ _ => rfl, Hle.refl _, h.2 c6P⟩
      ·clear h
       rintro d1c a7O ⟨a5N, a6m, rfl, b9N, d7J, c6Q, h⟩
       refine a7 (Pu.e (b3a _ _ _) (Pu.g fun hb => by obtain ⟨i5, d1d⟩ := c0Y hb; simp only [s8 hb]; exact (T8 _ _ _ _ _ _))) ?_
       refine a7 (Pu.g fun hb => by have i5 := hb; simp only [s8 i5, e1h i5]; exact (N6 _ _)) ?_
       refine a7 (a1d _ _) ?_
       refine u0 (fun b3C => ?_) (fun b3C => ?_)
       ·replace h := h.1 b3C
        exact hR false a6m _ b9N.drop h
       ·replace h := h.2 b3C
        exact hn2 _ _ _ (hm2 _ _ h).2 ⟨(P3 + (Utf8.decode x0 P3).2), a6m, rfl, rfl, b9N, (hm2 _ _ h).1⟩
     ·replace h := h.2 b3A
      refine a7 (m9 _ _ (vB false) rfl) ?_
      refine u0 (fun e => by cases e) (fun e => ?_)
      exact hx1 _ _ (hj1 H _ I.drop h)
theorem c1U (x0 : ByteArray) {H : Hp} {K : Bool → Hp → Prop} (h : a5O x0 H K) : a5L x0 H K := by
 intro w I
 refine f1x ?_
 refine b9L x0 I (fun r0 H' w' I' hk => ⟨H', _, I', r0, rfl, rfl, hk⟩) h
def a4n (x0 : r6) (H : Hp) (K : d9 → Hp → Prop) : Prop :=
 K (d9.P5 (V4.mk x0)) H
theorem b6x (x0 : r6) {K : d9 → Hp → Prop} (I : Inv w0 ps0 H0 H [] w) (hR : ∀ (r0 : d9) (H' : Hp) (w' : World) (_ : Inv w0 ps0 H0 H' [] w') (_ : K r0 H'), R (D1 r0) w') (h : a4n x0 H K) : F77 (Value.agg (r9 x0).toArray) w R E := by
 unfold a4n at h
 unfold F77
 refine L9 I (cs := (r9 x0)) rfl fun g_2 w_3 I_4 k_5 => ?_
 refine d7 (ldA Tryz.isAgg71 Tryz.sizeOf71 rfl (I_4.at1 (o := 0) (vs := (r9 x0)) (nb rfl) rfl)) ?_
 refine a7 (c9K _ _) ?_
 refine a7 (c6p (V4.mk x0)) ?_
 exact hR (d9.P5 (V4.mk x0)) H _ I_4.drop h
theorem b7B (x0 : r6) {H : Hp} {K : d9 → Hp → Prop} (h : a4n x0 H K) : b0f x0 H K := by
 intro w I
 refine f8G ?_
 refine b6x x0 I (fun r0 H' w' I' hk => ⟨H', _, I', r0, rfl, rfl, hk⟩) h
def E3 (J8 : (List d9)) (H : Hp) (K : Sl → Hp → Prop) : Prop :=
 ∀ (u7 : Sl) (K2 : Hp), Hle H K2 → SlH K2 1 v6 u7 J8 → u7.n ≤ u7.c →
 K u7 K2
def E4 (N0 : Sl) (U1 : Int) (p7 : (List d9)) (o7 : Int) (H : Hp) (n2 : ((List d9) × Int) → Hp → Prop) (K : Sl → Hp → Prop) : Prop :=
 (o7 < U1 →
 (0 : Int) ≤ o7 ∧ (o7 : Int) < N0.n ∧ ∃ x_1 : r6, EltH H N0 o7 2 (r9 x_1) ∧
 b0f x_1 H (fun (C3 : d9) (O7 : Hp) =>
 (p7.length + ([C3] : List d9).length) * 17 ≤ 140737488355328 ∧
 n2 ((p7 ++ [C3]), (IntKind.wrap .i64 (o7 + 1))) O7)) ∧
 (¬ (o7 < U1) →
 E3 p7 H K)
def G8 (x0 : Sl) (H : Hp) (K : Sl → Hp → Prop) : Prop :=
 TL (([], 0) : (List d9) × Int) H fun (s : (List d9) × Int) H n2 => E4 x0 (x0.n : Int) s.1 s.2 H n2 K
theorem a2G (x0 : Sl) {K : Sl → Hp → Prop} (I : Inv w0 ps0 H0 H [] w) (hR : ∀ (r0 : Sl) (H' : Hp) (w' : World) (_ : Inv w0 ps0 H0 H' [] w') (_ : K r0 H'), R (vs r0) w') (h : G8 x0 H K) : F76 (vs x0) (fC 77) w R E := by
 unfold G8 at h
 unfold F76
 have hj1 : ∀ (J8 : (List d9)) (u7 : Sl) (Fs5j1 : Frag) (H : Hp) (w : World) (_ : RowL 150 1 v6 u7 J8 Fs5j1) (_ : Inv w0 ps0 H0 H [Fs5j1] w) (_ : E3 J8 H K), d0b (vs u7) w R E := by
  intro J8 u7 Fs5j1 H w a5i I h
  unfold d0b
  intro _
  unfold E3 at h
  obtain ⟨K2, a5A, a6n, a1u, a3F⟩ := Inv.freezeC I a5i (by decide)
  replace h := h u7 K2 a6n a1u a3F
  exact hR u7 K2 _ a5A h
 refine A7 fun j1 hx1 => ?_
 refine a7 (b4W _ _ _) ?_
 obtain ⟨Z7, O6, a7P, a7Q⟩ := h
 refine M6 (J := fun n l w => ∃ (s : (List d9) × Int) (H : Hp) (J9 : Sl) (Fs5l2 : Frag) , n = O6 s ∧ l = (match s with | (p7, o7) => [(vs J9), (vi o7)]) ∧ (match s with | (p7, o7) => RowL 150 1 v6 J9 p7 Fs5l2) ∧ (match s with | (p7, o7) => Inv w0 ps0 H0 H [Fs5l2] w) ∧ Z7 s H) ⟨_, ([], 0), H, (Sl.mk none 0 0), [], rfl, rfl, (RowL.nil Q2 R5), I.nil, a7P⟩ ?_
 rintro b9O τ_50 w next2 ⟨⟨p7, o7⟩, H, J9, Fs5l2, rfl, Y0, S8, I, a7R⟩ hn2
 dsimp only at Y0 I S8
 simp only [List.map_cons, List.map_nil, List.cons.injEq, and_true] at Y0
 obtain ⟨e5, e10⟩ := Y0
 simp only [e5, e10]
 obtain ⟨n2, hm2, h⟩ : ∃ n2 : ((List d9) × Int) → Hp → Prop, (∀ s' H', n2 s' H' → Z7 s' H' ∧ O6 s' < O6 (p7, o7)) ∧ E4 x0 (x0.n : Int) p7 o7 H n2 K := ⟨_, fun _ _ h => h, a7Q (p7, o7) H (fun s' H' => Z7 s' H' ∧ O6 s' < O6 (p7, o7)) a7R (fun _ _ a b => ⟨a, b⟩)⟩
 unfold e1B
 unfold E4 at h
 refine a7 (D7 _ _ _ _ _ _) ?_
 refine j8 (fun V8 => ?_) (fun V8 => ?_)
 ·replace h := h.1 V8
  obtain ⟨h_4, h_5, x_1, h_7, h⟩ := h
  obtain ⟨g_2, o_3, h_6, h_7⟩ := h_7
  refine a7 (b7p h_6 _ _ _ _ h_4 h_5) ?_
  refine d7 (ldA (vs := (r9 x_1)) Tryz.isAgg71 Tryz.sizeOf71 rfl (I.atH h_7)) ?_
  refine y9 I Tryz.zeroValue71 (cs := [(eS), (vi 0)]) rfl fun g_9 q7 a0V b0j => ?_
  refine m7 a0V Tryz.sizeOf71 (vs := (r9 x_1)) (cs' := (r9 x_1)) rfl rfl (nb rfl) rfl rfl fun a0e O8 a3V => ?_
  refine d7 (ldA Tryz.isAgg71 Tryz.sizeOf71 rfl (O8.at1 (o := 0) (vs := (r9 x_1)) (nb rfl) rfl)) ?_
  refine d8 (cap := []) (fun args w => Tryz.call77 args w) ?_
  refine o0 (Fi := []) (Fr := [bx g_9 71 (r9 x_1), Fs5l2]) O8 (h) (fun b5C O7 b3D X8 a1v b5D b5E a5B => ?_) (fun _ _ _ _ _ q => q.elim)
  obtain ⟨C3, rfl, rfl, h⟩ := a5B
  refine a1s (e := 150) (c := v6) (xs := [C3]) a1v (b0K _) rfl rfl Q2 R5 (nb rfl) fun b2j b0k D8 a4I V9 a8E => ?_
  obtain ⟨a5C, h⟩ := h
  refine b6q (s := J9) (xs := p7) (V9.bring 2) S8 (a4I.srcO ((V9.bring 2).bring 1)) a5C fun a4o a7p B3 a3W a2p b0M => ?_
  refine a7 (L6 _ _ _ _ _ _) ?_
  exact hn2 _ _ _ (hm2 _ _ h).2 ⟨((p7 ++ [C3]), (IntKind.wrap .i64 (o7 + 1))), O7, a4o, a7p, rfl, rfl, a3W, ((a2p.bring 1).drop.bring 1).drop, (hm2 _ _ h).1⟩
 ·replace h := h.2 V8
  exact hx1 _ _ (hj1 p7 J9 Fs5l2 H _ S8 I h)
theorem a2O (x0 : Sl) {H : Hp} {K : Sl → Hp → Prop} (h : G8 x0 H K) : O0 x0 H K := by
 intro w I
 refine f8E ?_
 refine a2G x0 I (fun r0 H' w' I' hk => ⟨H', _, I', r0, rfl, rfl, hk⟩) h
def E5 (J8 : (List d9)) (H : Hp) (K : Sl → Hp → Prop) : Prop :=
 ∀ (u7 : Sl) (K2 : Hp), Hle H K2 → SlH K2 1 v6 u7 J8 → u7.n ≤ u7.c →
 K u7 K2
def E6 (N0 : Sl) (U1 : Int) (p7 : (List d9)) (o7 : Int) (H : Hp) (n2 : ((List d9) × Int) → Hp → Prop) (K : Sl → Hp → Prop) : Prop :=
 (o7 < U1 →
 (0 : Int) ≤ o7 ∧ (o7 : Int) < N0.n ∧ ∃ x_1 : d5, EltH H N0 o7 6 (g7 x_1) ∧
 b0g x_1 H (fun (C3 : d9) (O7 : Hp) =>
 (p7.length + ([C3] : List d9).length) * 17 ≤ 140737488355328 ∧
 n2 ((p7 ++ [C3]), (IntKind.wrap .i64 (o7 + 1))) O7)) ∧
 (¬ (o7 < U1) →
 E5 p7 H K)
def G9 (x0 : Sl) (H : Hp) (K : Sl → Hp → Prop) : Prop :=
 TL (([], 0) : (List d9) × Int) H fun (s : (List d9) × Int) H n2 => E6 x0 (x0.n : Int) s.1 s.2 H n2 K
theorem a2H (x0 : Sl) {K : Sl → Hp → Prop} (I : Inv w0 ps0 H0 H [] w) (hR : ∀ (r0 : Sl) (H' : Hp) (w' : World) (_ : Inv w0 ps0 H0 H' [] w') (_ : K r0 H'), R (vs r0) w') (h : G9 x0 H K) : F78 (vs x0) (fC 79) w R E := by
 unfold G9 at h
 unfold F78
 have hj1 : ∀ (J8 : (List d9)) (u7 : Sl) (Fs5j1 : Frag) (H : Hp) (w : World) (_ : RowL 150 1 v6 u7 J8 Fs5j1) (_ : Inv w0 ps0 H0 H [Fs5j1] w) (_ : E5 J8 H K), d0c (vs u7) w R E := by
  intro J8 u7 Fs5j1 H w a5i I h
  unfold d0c
  intro _
  unfold E5 at h
  obtain ⟨K2, a5A, a6n, a1u, a3F⟩ := Inv.freezeC I a5i (by decide)
  replace h := h u7 K2 a6n a1u a3F
  exact hR u7 K2 _ a5A h
 refine A7 fun j1 hx1 => ?_
 refine a7 (a6t _ _ _) ?_
 obtain ⟨Z7, O6, a7P, a7Q⟩ := h
 refine M6 (J := fun n l w => ∃ (s : (List d9) × Int) (H : Hp) (J9 : Sl) (Fs5l2 : Frag) , n = O6 s ∧ l = (match s with | (p7, o7) => [(vs J9), (vi o7)]) ∧ (match s with | (p7, o7) => RowL 150 1 v6 J9 p7 Fs5l2) ∧ (match s with | (p7, o7) => Inv w0 ps0 H0 H [Fs5l2] w) ∧ Z7 s H) ⟨_, ([], 0), H, (Sl.mk none 0 0), [], rfl, rfl, (RowL.nil Q2 R5), I.nil, a7P⟩ ?_
 rintro b9O τ_50 w next2 ⟨⟨p7, o7⟩, H, J9, Fs5l2, rfl, Y0, S8, I, a7R⟩ hn2
 dsimp only at Y0 I S8
 simp only [List.map_cons, List.map_nil, List.cons.injEq, and_true] at Y0
 obtain ⟨e5, e10⟩ := Y0
 simp only [e5, e10]
 obtain ⟨n2, hm2, h⟩ : ∃ n2 : ((List d9) × Int) → Hp → Prop, (∀ s' H', n2 s' H' → Z7 s' H' ∧ O6 s' < O6 (p7, o7)) ∧ E6 x0 (x0.n : Int) p7 o7 H n2 K := ⟨_, fun _ _ h => h, a7Q (p7, o7) H (fun s' H' => Z7 s' H' ∧ O6 s' < O6 (p7, o7)) a7R (fun _ _ a b => ⟨a, b⟩)⟩
 unfold e1C
 unfold E6 at h
 refine a7 (D7 _ _ _ _ _ _) ?_
 refine j8 (fun V8 => ?_) (fun V8 => ?_)
 ·replace h := h.1 V8
  obtain ⟨h_4, h_5, x_1, h_7, h⟩ := h
  obtain ⟨g_2, o_3, h_6, h_7⟩ := h_7
  refine a7 (b3q h_6 _ _ _ _ h_4 h_5) ?_
  refine d7 (ldA (vs := (g7 x_1)) Tryz.isAgg73 Tryz.sizeOf73 rfl (I.atH h_7)) ?_
  refine y9 I Tryz.zeroValue73 (cs := [(vi 0), (eS), (nS), (nS), (nS), (nS)]) rfl fun g_9 q7 a0V b0j => ?_
  refine m7 a0V Tryz.sizeOf73 (vs := (g7 x_1)) (cs' := (g7 x_1)) rfl rfl (nb rfl) rfl rfl fun a0e O8 a3V => ?_
  refine d7 (ldA Tryz.isAgg73 Tryz.sizeOf73 rfl (O8.at1 (o := 0) (vs := (g7 x_1)) (nb rfl) rfl)) ?_
  refine d8 (cap := []) (fun args w => Tryz.call79 args w) ?_
  refine o0 (Fi := []) (Fr := [bx g_9 73 (g7 x_1), Fs5l2]) O8 (h) (fun b5C O7 b3D X8 a1v b5D b5E a5B => ?_) (fun _ _ _ _ _ q => q.elim)
  obtain ⟨C3, rfl, rfl, h⟩ := a5B
  refine a1s (e := 150) (c := v6) (xs := [C3]) a1v (b0K _) rfl rfl Q2 R5 (nb rfl) fun b2j b0k D8 a4I V9 a8E => ?_
  obtain ⟨a5C, h⟩ := h
  refine b6q (s := J9) (xs := p7) (V9.bring 2) S8 (a4I.srcO ((V9.bring 2).bring 1)) a5C fun a4o a7p B3 a3W a2p b0M => ?_
  refine a7 (L6 _ _ _ _ _ _) ?_
  exact hn2 _ _ _ (hm2 _ _ h).2 ⟨((p7 ++ [C3]), (IntKind.wrap .i64 (o7 + 1))), O7, a4o, a7p, rfl, rfl, a3W, ((a2p.bring 1).drop.bring 1).drop, (hm2 _ _ h).1⟩
 ·replace h := h.2 V8
  exact hx1 _ _ (hj1 p7 J9 Fs5l2 H _ S8 I h)
theorem a2P (x0 : Sl) {H : Hp} {K : Sl → Hp → Prop} (h : G9 x0 H K) : B4 x0 H K := by
 intro w I
 refine f8I ?_
 refine a2H x0 I (fun r0 H' w' I' hk => ⟨H', _, I', r0, rfl, rfl, hk⟩) h
def a1V (x0 : M0) (H : Hp) (K : Sl → Hp → Prop) : Prop :=
 B5 x0.t6.o9 H (fun (X1 : Sl) (H_6 : Hp) =>
 K X1 H_6)
theorem b2E (x0 : M0) {K : Sl → Hp → Prop} (I : Inv w0 ps0 H0 H [] w) (hR : ∀ (r0 : Sl) (H' : Hp) (w' : World) (_ : Inv w0 ps0 H0 H' [] w') (_ : K r0 H'), R (vs r0) w') (h : a1V x0 H K) : d7u (Value.agg (b8 x0.t6).toArray) w R E := by
 unfold a1V at h
 unfold d7u
 refine L9 I (cs := (b8 x0.t6)) rfl fun g_2 w_3 I_4 k_5 => ?_
 refine a7 a1E ?_
 refine a7 K5 ?_
 refine d7 (ld1 Tryz.isAgg51 (I_4.at1 (o := 3) (vs := [(vs x0.t6.o9)]) (nb rfl) rfl)) ?_
 refine d8 (cap := []) (fun args w => Tryz.call189 args w) ?_
 refine o0 (Fi := []) (Fr := [bx g_2 136 (b8 x0.t6)]) I_4 (h) (fun c6R H_6 c6S w_7 I_8 c6T k_9 b0N => ?_) (fun _ _ _ _ _ q => q.elim)
 obtain ⟨X1, rfl, rfl, h⟩ := b0N
 exact hR X1 H_6 _ I_8.drop h
theorem b3E (x0 : M0) {H : Hp} {K : Sl → Hp → Prop} (h : a1V x0 H K) : a7K x0 H K := by
 intro w I
 refine f1S ?_
 refine b2E x0 I (fun r0 H' w' I' hk => ⟨H', _, I', r0, rfl, rfl, hk⟩) h
def a4p (x0 : b9) (H : Hp) (K : d9 → Hp → Prop) : Prop :=
 K (d9.O2 (P1.mk x0)) H
theorem b6y (x0 : b9) {K : d9 → Hp → Prop} (I : Inv w0 ps0 H0 H [] w) (hR : ∀ (r0 : d9) (H' : Hp) (w' : World) (_ : Inv w0 ps0 H0 H' [] w') (_ : K r0 H'), R (D1 r0) w') (h : a4p x0 H K) : d7B (Value.agg (d6 x0).toArray) w R E := by
 unfold a4p at h
 unfold d7B
 refine L9 I (cs := (d6 x0)) rfl fun g_2 w_3 I_4 k_5 => ?_
 refine d7 (ldA Tryz.isAgg59 Tryz.sizeOf59 rfl (I_4.at1 (o := 0) (vs := (d6 x0)) (nb rfl) rfl)) ?_
 refine a7 (b9k _ _ _ _ _ _ _ _) ?_
 refine a7 (b6p (P1.mk x0)) ?_
 exact hR (d9.O2 (P1.mk x0)) H _ I_4.drop h
theorem b7C (x0 : b9) {H : Hp} {K : d9 → Hp → Prop} (h : a4p x0 H K) : b0i x0 H K := by
 intro w I
 refine f2f ?_
 refine b6y x0 I (fun r0 H' w' I' hk => ⟨H', _, I', r0, rfl, rfl, hk⟩) h
def a1W (x0 : P1) (H : Hp) (K : Sl → Hp → Prop) : Prop :=
 B5 x0.s7.j7 H (fun (m5 : Sl) (H_8 : Hp) =>
 G7 x0.s7.t7 H_8 (fun (j9 : Sl) (a4W : Hp) =>
 ∀ (b0O : Sl) (b3F : Hp), Hle a4W b3F → SlH b3F 1 csl b0O [m5, j9] → b0O.n ≤ b0O.c →
 G2 b0O b3F (fun (c1k : Sl) (b2k : Hp) =>
 K c1k b2k)))
theorem b2F (x0 : P1) {K : Sl → Hp → Prop} (I : Inv w0 ps0 H0 H [] w) (hR : ∀ (r0 : Sl) (H' : Hp) (w' : World) (_ : Inv w0 ps0 H0 H' [] w') (_ : K r0 H'), R (vs r0) w') (h : a1W x0 H K) : d7z (Value.agg (d6 x0.s7).toArray) w R E := by
 unfold a1W at h
 unfold d7z
 refine L9 I (cs := (d6 x0.s7)) rfl fun g_2 w_3 I_4 k_5 => ?_
 refine X7 I_4 fun w_6 I_7 => ?_
 refine m8 a3j ?_
 refine m8 a1L ?_
 refine m8 a3j ?_
 refine m8 V6 ?_
 refine y7 (ld1 Tryz.isAgg51 (I_7.at1 (o := 2) (vs := [(vs x0.s7.j7)]) (nb rfl) rfl)) ?_
 refine y7 (ld1 Tryz.isAgg57 (I_7.at1 (o := 3) (vs := [(vs x0.s7.t7)]) (nb rfl) rfl)) ?_
 refine d8 (cap := []) (fun args w => Tryz.call189 args w) ?_
 refine o0 (Fi := []) (Fr := [bx g_2 143 (d6 x0.s7)]) I_7 (h) (fun e5q H_8 e5r w_9 b0l c2E b5F c2F => ?_) (fun _ _ _ _ _ q => q.elim)
 obtain ⟨m5, rfl, rfl, h⟩ := c2F
 refine ⟨(b5F _ I_7.lt1 (Inv.a4c (Fi := []) I_7)), ?_⟩
 refine d8 (cap := []) (fun args w => Tryz.call193 args w) ?_
 refine o0 (Fi := []) (Fr := [bx g_2 143 (d6 x0.s7)]) b0l (h) (fun d7K a4W d7L u5 a9o d7M b9P b7D => ?_) (fun _ _ _ _ _ q => q.elim)
 obtain ⟨j9, rfl, rfl, h⟩ := b7D
 refine a1s (e := 137) (c := csl) (xs := [m5, j9]) a9o (c9J _ _ _ _ _ _) rfl rfl c1a c1b (nb rfl) fun b0O d1f a6o d1g d1a g1Z => ?_
 obtain ⟨b3F, c2G, d0v, d1h, d1i⟩ := Inv.freezeC d1a d1g (by decide)
 replace h := h b0O b3F d0v d1h d1i
 refine d8 (cap := []) (fun args w => Tryz.call75 args w) ?_
 refine o0 (Fi := []) (Fr := [bx g_2 143 (d6 x0.s7)]) c2G (h) (fun h8D b2k h8E b9Q a5A h8F h8G e5s => ?_) (fun _ _ _ _ _ q => q.elim)
 obtain ⟨c1k, rfl, rfl, h⟩ := e5s
 exact hR c1k b2k _ a5A.drop h
theorem b3G (x0 : P1) {H : Hp} {K : Sl → Hp → Prop} (h : a1W x0 H K) : a7L x0 H K := by
 intro w I
 refine f2b ?_
 refine b2F x0 I (fun r0 H' w' I' hk => ⟨H', _, I', r0, rfl, rfl, hk⟩) h
def a2u (x0 : V4) (H : Hp) (K : Bool → Hp → Prop) : Prop :=
 K ((decide (0 ≤ x0.V5.Q6)) && (decide (x0.V5.Q6 ≤ 2147483647))) H
theorem b3H (x0 : V4) {K : Bool → Hp → Prop} (I : Inv w0 ps0 H0 H [] w) (hR : ∀ (r0 : Bool) (H' : Hp) (w' : World) (_ : Inv w0 ps0 H0 H' [] w') (_ : K r0 H'), R (vB r0) w') (h : a2u x0 H K) : d7C (Value.agg (r9 x0.V5).toArray) w R E := by
 unfold a2u at h
 unfold d7C
 refine L9 I (cs := (r9 x0.V5)) rfl fun g_2 w_3 I_4 k_5 => ?_
 refine a7 b5x ?_
 refine a7 a6z ?_
 refine d7 (ld1 Tryz.isAgg3 (I_4.at1 (o := 1) (vs := [(vi x0.V5.Q6)]) (nb rfl) rfl)) ?_
 refine a7 (b6n _ _ _ _ _ _) ?_
 refine a7 (Pu.g fun hb => by have i5 := hb; exact b5x) ?_
 refine a7 (Pu.g fun hb => by have i5 := hb; simp only [s8 i5]; exact a6z) ?_
 refine d7 (Ld.g fun hb => by have i5 := hb; simp only [s8 i5]; exact (ld1 Tryz.isAgg3 (I_4.at1 (o := 1) (vs := [(vi x0.V5.Q6)]) (nb rfl) rfl))) ?_
 refine a7 (Pu.g fun hb => by have i5 := hb; simp only [s8 i5]; exact (b6m _ _ _ _ _ _)) ?_
 refine a7 (N6 _ _) ?_
 exact hR ((decide (0 ≤ x0.V5.Q6)) && (decide (x0.V5.Q6 ≤ 2147483647))) H _ I_4.drop h
theorem b4C (x0 : V4) {H : Hp} {K : Bool → Hp → Prop} (h : a2u x0 H K) : a8A x0 H K := by
 intro w I
 refine f2h ?_
 refine b3H x0 I (fun r0 H' w' I' hk => ⟨H', _, I', r0, rfl, rfl, hk⟩) h
end Go.Proofs.YtnhkdkcgdcgmdaaGreatDoor
