/- Typed formulas of the program's functions, and the theorems that the contracts follow from them; printed by lift.py off the code. -/
import Derived.Test.YtnhkdkcgdcgmdaaGreatDoorzPV1
namespace Go.Proofs.YtnhkdkcgdcgmdaaGreatDoor
open Go.RowKit
set_option maxRecDepth 100000
set_option maxHeartbeats 2000000
variable {w0 w : World} {ps0 : Nat → Prop} {H0 H : Hp} {R : RT} {E : Pan}
def a6x (H : Hp) (K : Bool → Hp → Prop) : Prop :=
 K true H
def R9 (b5L : ByteArray) (O5 : Nat) (H : Hp) (n2 : Nat → Hp → Prop) (K : Bool → Hp → Prop) : Prop :=
 (O5 < b5L.size →
 a6Y ((Utf8.decode b5L O5).1 : Int) H (fun (a4f : Bool) (a8L : Hp) =>
 TG ((!(!a4f) && (decide (((O5 : Nat) : Int) = 0))) = true) (a4F ((Utf8.decode b5L O5).1 : Int) a8L) 0 a8L (fun (a5B : Int) (a5X : Hp) =>
 (((!a4f) || ((decide (((O5 : Nat) : Int) = 0)) && (!decide (a5B = 3)))) = true →
 K false a5X) ∧
 (((!a4f) || ((decide (((O5 : Nat) : Int) = 0)) && (!decide (a5B = 3)))) = false →
 n2 (O5 + (Utf8.decode b5L O5).2) a5X)))) ∧
 (¬ (O5 < b5L.size) →
 a6x H K)
def a5C (x0 : ByteArray) (H : Hp) (K : Bool → Hp → Prop) : Prop :=
 TG ((decide (x0 = ⟨#[]⟩)) = false) (a6S x0 H) false H (fun (M3 : Bool) (H_1 : Hp) =>
 TG (((decide (x0 = ⟨#[]⟩)) || (!M3)) = false) (a5y x0 H_1) false H_1 (fun (L4 : Bool) (a5t : Hp) =>
 TG ((((decide (x0 = ⟨#[]⟩)) || (!M3)) || L4) = false) (a3X x0 a5t) false a5t (fun (a2i : Bool) (a4g : Hp) =>
 (((((decide (x0 = ⟨#[]⟩)) || (!M3)) || L4) || a2i) = true →
 K false a4g) ∧
 (((((decide (x0 = ⟨#[]⟩)) || (!M3)) || L4) || a2i) = false →
 TL (0 : Nat) a4g fun (s : Nat) H n2 => R9 x0 s H n2 K))))
theorem b9o (x0 : ByteArray) {K : Bool → Hp → Prop} (I : Inv w0 ps0 H0 H [] w) (hR : ∀ (r0 : Bool) (H' : Hp) (w' : World) (_ : Inv w0 ps0 H0 H' [] w') (_ : K r0 H'), R (vB r0) w') (h : a5C x0 H K) : d5G (Value.string x0) w R E := by
 unfold a5C at h
 unfold d5G
 refine a7 (a3V _ _ _ _ _) ?_
 simp only [Q0]
 refine a7m (D := fun v_5 w_2 => ∃ (M3 : Bool) (H_1 : Hp) , v_5 = (gv (decide (x0 = ⟨#[]⟩)) false (vB M3)) ∧ (Inv w0 ps0 H0 H_1 [] w_2) ∧ (∀ i, i < w.heap.size → ¬ inF [] i → w_2.heap[i]? = w.heap[i]?) ∧ Hle H H_1 ∧ (TG (((decide (x0 = ⟨#[]⟩)) || (!M3)) = false) (a5y x0 H_1) false H_1 (fun (L4 : Bool) (a5t : Hp) =>
 TG ((((decide (x0 = ⟨#[]⟩)) || (!M3)) || L4) = false) (a3X x0 a5t) false a5t (fun (a2i : Bool) (a4g : Hp) =>
 (((((decide (x0 = ⟨#[]⟩)) || (!M3)) || L4) || a2i) = true →
 K false a4g) ∧
 (((((decide (x0 = ⟨#[]⟩)) || (!M3)) || L4) || a2i) = false →
 TL (0 : Nat) a4g fun (s : Nat) H n2 => R9 x0 s H n2 K))))) (fun c4c => ?_) (fun c4c => ?_) ?_
 ·replace h := h.1 c4c
  have i5 := c4c
  simp only [r8 i5]
  refine d8 (cap := []) (fun args w => Tryz.call162 args w) ?_
  refine m4 (Fi := []) (Fr := []) I (h) (fun v_5 H_1 F_6 w_2 I_3 l_8 k_4 q_7 => ?_) (fun _ _ _ _ _ q => q.elim)
  obtain ⟨M3, rfl, rfl, h⟩ := q_7
  exact ⟨M3, H_1, by rfl, I_3, k_4, l_8, h⟩
 ·exact ⟨false, H, by rw [b1s c4c], I, fun _ _ _ => rfl, Hle.refl _, h.2 c4c⟩
 ·clear h
  rintro v_5 w_2 ⟨M3, H_1, rfl, I_3, k_4, l_8, h⟩
  refine a7 (Pu.g fun hb => by have i5 := hb; simp only [r8 i5]; exact (a0S _)) ?_
  refine a7 (a0E _ _) ?_
  simp only [Q0]
  refine a7m (D := fun c9R R7 => ∃ (L4 : Bool) (a5t : Hp) , c9R = (gv ((decide (x0 = ⟨#[]⟩)) || (!M3)) false (vB L4)) ∧ (Inv w0 ps0 H0 a5t [] R7) ∧ (∀ i, i < w_2.heap.size → ¬ inF [] i → R7.heap[i]? = w_2.heap[i]?) ∧ Hle H_1 a5t ∧ (TG ((((decide (x0 = ⟨#[]⟩)) || (!M3)) || L4) = false) (a3X x0 a5t) false a5t (fun (a2i : Bool) (a4g : Hp) =>
 (((((decide (x0 = ⟨#[]⟩)) || (!M3)) || L4) || a2i) = true →
 K false a4g) ∧
 (((((decide (x0 = ⟨#[]⟩)) || (!M3)) || L4) || a2i) = false →
 TL (0 : Nat) a4g fun (s : Nat) H n2 => R9 x0 s H n2 K)))) (fun c9S => ?_) (fun c9S => ?_) ?_
  ·replace h := h.1 c9S
   have i5 := c9S
   simp only [r8 i5]
   refine d8 (cap := []) (fun args w => Tryz.call163 args w) ?_
   refine m4 (Fi := []) (Fr := []) I_3 (h) (fun c9R a5t g0w R7 D8 c2c b6S c9T => ?_) (fun _ _ _ _ _ q => q.elim)
   obtain ⟨L4, rfl, rfl, h⟩ := c9T
   exact ⟨L4, a5t, by rfl, D8, b6S, c2c, h⟩
  ·exact ⟨false, H_1, by rw [b1s c9S], I_3, fun _ _ _ => rfl, Hle.refl _, h.2 c9S⟩
  ·clear h
   rintro c9R R7 ⟨L4, a5t, rfl, D8, b6S, c2c, h⟩
   refine a7 (a0E _ _) ?_
   simp only [Q0]
   refine a7m (D := fun d6d t7 => ∃ (a2i : Bool) (a4g : Hp) , d6d = (gv (((decide (x0 = ⟨#[]⟩)) || (!M3)) || L4) false (vB a2i)) ∧ (Inv w0 ps0 H0 a4g [] t7) ∧ (∀ i, i < R7.heap.size → ¬ inF [] i → t7.heap[i]? = R7.heap[i]?) ∧ Hle a5t a4g ∧ ((((((decide (x0 = ⟨#[]⟩)) || (!M3)) || L4) || a2i) = true →
 K false a4g) ∧
 (((((decide (x0 = ⟨#[]⟩)) || (!M3)) || L4) || a2i) = false →
 TL (0 : Nat) a4g fun (s : Nat) H n2 => R9 x0 s H n2 K))) (fun c9U => ?_) (fun c9U => ?_) ?_
   ·replace h := h.1 c9U
    have i5 := c9U
    simp only [r8 i5]
    refine d8 (cap := []) (fun args w => Tryz.call164 args w) ?_
    refine m4 (Fi := []) (Fr := []) D8 (h) (fun d6d a4g h6Z t7 a0B c9V b6T e3E => ?_) (fun _ _ _ _ _ q => q.elim)
    obtain ⟨a2i, rfl, rfl, h⟩ := e3E
    exact ⟨a2i, a4g, by rfl, a0B, b6T, c9V, h⟩
   ·exact ⟨false, a5t, by rw [b1s c9U], D8, fun _ _ _ => rfl, Hle.refl _, h.2 c9U⟩
   ·clear h
    rintro d6d t7 ⟨a2i, a4g, rfl, a0B, b6T, c9V, h⟩
    refine a7 (a0E _ _) ?_
    refine s6 (fun e3F => ?_) (fun e3F => ?_)
    ·replace h := h.1 e3F
     exact hR false a4g _ a0B h
    ·replace h := h.2 e3F
     have hj1 : ∀ (H : Hp) (w : World) (_ : Inv w0 ps0 H0 H [] w) (_ : a6x H K), c5E w R E := by
      intro H w I h
      unfold c5E
      intro _
      unfold a6x at h
      exact hR true H _ I h
     refine v8 fun j1 hx1 => ?_
     refine d4i Tryz.underlying9 x0 a0B fun d6e H7 c9W g0x => ?_
     obtain ⟨e3G, c9X, h7a, h7b⟩ := h
     refine L6 (J := fun n l w => ∃ (s : Nat) (H : Hp) , n = c9X s ∧ l = [] ∧ Inv w0 ps0 H0 H [itf d6e x0 s] w ∧ e3G s H) ⟨_, 0, a4g, rfl, rfl, c9W, h7a⟩ ?_
     rintro i3o τ_94 w next2 ⟨O5, H, rfl, h7c, I, h7d⟩ hn2
     clear h7c
     obtain ⟨n2, hm2, h⟩ : ∃ n2 : Nat → Hp → Prop, (∀ s' H', n2 s' H' → e3G s' H' ∧ c9X s' < c9X O5) ∧ R9 x0 O5 H n2 K := ⟨_, fun _ _ h => h, h7b O5 H (fun s' H' => e3G s' H' ∧ c9X s' < c9X O5) h7d (fun _ _ a b => ⟨a, b⟩)⟩
     unfold d4q
     unfold R9 at h
     refine d9z I (fun b2R b1x e3H e3I => ?_) (fun b2R => ?_)
     ·replace h := h.1 b2R
      refine a7 (m2 _ _ (vB true) rfl) ?_
      refine s6 (fun e => ?_) (fun e => by cases e)
      refine a7 (m2 _ _ (vi ((O5 : Nat) : Int)) rfl) ?_
      refine a7 (m2 _ _ (Value.int .i32 ((Utf8.decode x0 O5).1 : Int)) rfl) ?_
      refine d8 (cap := []) (fun args w => Tryz.call165 args w) ?_
      refine m4 (Fi := []) (Fr := [itf d6e x0 (O5 + (Utf8.decode x0 O5).2)]) e3H (h) (fun c5W a8L e3J S3 b2S e3K d6f c2d => ?_) (fun _ _ _ _ _ q => q.elim)
      obtain ⟨a4f, rfl, rfl, h⟩ := c2d
      refine a7 (a0S _) ?_
      simp only [Q0]
      refine a7 (Pu.g fun hb => by have i5 := hb; simp only [r8 i5]; exact (m5 _ _ _ _ _ _)) ?_
      simp only [e7Q, f5X]
      refine b4m (b2q _ _ _) ?_
      refine a7m (D := fun c9Y a5Y => ∃ (a5B : Int) (a5X : Hp) , c9Y = (gv (!(!a4f) && (decide (((O5 : Nat) : Int) = 0))) true (vi a5B)) ∧ (Inv w0 ps0 H0 a5X [itf d6e x0 (O5 + (Utf8.decode x0 O5).2)] a5Y) ∧ (∀ i, i < S3.heap.size → ¬ inF [] i → a5Y.heap[i]? = S3.heap[i]?) ∧ Hle a8L a5X ∧ ((((!a4f) || ((decide (((O5 : Nat) : Int) = 0)) && (!decide (a5B = 3)))) = true →
 K false a5X) ∧
 (((!a4f) || ((decide (((O5 : Nat) : Int) = 0)) && (!decide (a5B = 3)))) = false →
 n2 (O5 + (Utf8.decode x0 O5).2) a5X))) (fun c5X => ?_) (fun c5X => ?_) ?_
      ·replace h := h.1 c5X
       obtain ⟨i5, c9Z⟩ := c0B c5X
       simp only [r8 c5X]
       refine d8 (cap := []) (fun args w => Tryz.call166 args w) ?_
       refine m4 (Fi := []) (Fr := [itf d6e x0 (O5 + (Utf8.decode x0 O5).2)]) b2S (h) (fun c9Y a5X g0y a5Y b9p d6g d6h d0a => ?_) (fun _ _ _ _ _ q => q.elim)
       obtain ⟨a5B, rfl, rfl, h⟩ := d0a
       exact ⟨a5B, a5X, by rfl, b9p, d6h, d6g, h⟩
      ·exact ⟨0, a8L, by rw [b1s c5X], b2S, fun _ _ _ => rfl, Hle.refl _, h.2 c5X⟩
      ·clear h
       rintro c9Y a5Y ⟨a5B, a5X, rfl, b9p, d6h, d6g, h⟩
       refine a7 (Pu.e (b2q _ _ _) (Pu.g fun hb => by obtain ⟨i5, c9Z⟩ := c0B hb; simp only [r8 hb]; exact (T0 _ _ _ _ _ _))) ?_
       refine a7 (Pu.g fun hb => by have i5 := hb; simp only [r8 i5, d9w i5]; exact (P7 _ _)) ?_
       refine a7 (a0E _ _) ?_
       refine s6 (fun b2T => ?_) (fun b2T => ?_)
       ·replace h := h.1 b2T
        exact hR false a5X _ b9p.drop h
       ·replace h := h.2 b2T
        exact hn2 _ _ _ (hm2 _ _ h).2 ⟨(O5 + (Utf8.decode x0 O5).2), a5X, rfl, rfl, b9p, (hm2 _ _ h).1⟩
     ·replace h := h.2 b2R
      refine a7 (m2 _ _ (vB false) rfl) ?_
      refine s6 (fun e => by cases e) (fun e => ?_)
      exact hx1 _ _ (hj1 H _ I.drop h)
theorem c1v (x0 : ByteArray) {H : Hp} {K : Bool → Hp → Prop} (h : a5C x0 H K) : a5z x0 H K := by
 intro w I
 refine e9T ?_
 refine b9o x0 I (fun r0 H' w' I' hk => ⟨H', _, I', r0, rfl, rfl, hk⟩) h
def a4h (x0 : p5) (H : Hp) (K : d9 → Hp → Prop) : Prop :=
 K (d9.O7 (V1.mk x0)) H
theorem b5M (x0 : p5) {K : d9 → Hp → Prop} (I : Inv w0 ps0 H0 H [] w) (hR : ∀ (r0 : d9) (H' : Hp) (w' : World) (_ : Inv w0 ps0 H0 H' [] w') (_ : K r0 H'), R (C3 r0) w') (h : a4h x0 H K) : F77 (Value.agg (p8 x0).toArray) w R E := by
 unfold a4h at h
 unfold F77
 refine M4 I (cs := (p8 x0)) rfl fun g_2 w_3 I_4 k_5 => ?_
 refine d6 (ldA Tryz.isAgg71 Tryz.sizeOf71 rfl (I_4.at1 (o := 0) (vs := (p8 x0)) (nb rfl) rfl)) ?_
 refine a7 (c8I _ _) ?_
 refine a7 (c5v (V1.mk x0)) ?_
 exact hR (d9.O7 (V1.mk x0)) H _ I_4.drop h
theorem b6U (x0 : p5) {H : Hp} {K : d9 → Hp → Prop} (h : a4h x0 H K) : a9z x0 H K := by
 intro w I
 refine f7b ?_
 refine b5M x0 I (fun r0 H' w' I' hk => ⟨H', _, I', r0, rfl, rfl, hk⟩) h
def E6 (D9 : (List d9)) (H : Hp) (K : Sl → Hp → Prop) : Prop :=
 ∀ (q8 : Sl) (K1 : Hp), Hle H K1 → SlH K1 1 s8 q8 D9 → q8.n ≤ q8.c →
 K q8 K1
def E7 (U6 : Sl) (T4 : Int) (m3 : (List d9)) (m6 : Int) (H : Hp) (n2 : ((List d9) × Int) → Hp → Prop) (K : Sl → Hp → Prop) : Prop :=
 (m6 < T4 →
 (0 : Int) ≤ m6 ∧ (m6 : Int) < U6.n ∧ ∃ x_1 : p5, EltH H U6 m6 2 (p8 x_1) ∧
 a9z x_1 H (fun (E0 : d9) (Q2 : Hp) =>
 (m3.length + ([E0] : List d9).length) * 17 ≤ 140737488355328 ∧
 n2 ((m3 ++ [E0]), (IntKind.wrap .i64 (m6 + 1))) Q2)) ∧
 (¬ (m6 < T4) →
 E6 m3 H K)
def G6 (x0 : Sl) (H : Hp) (K : Sl → Hp → Prop) : Prop :=
 TL (([], 0) : (List d9) × Int) H fun (s : (List d9) × Int) H n2 => E7 x0 (x0.n : Int) s.1 s.2 H n2 K
theorem a2x (x0 : Sl) {K : Sl → Hp → Prop} (I : Inv w0 ps0 H0 H [] w) (hR : ∀ (r0 : Sl) (H' : Hp) (w' : World) (_ : Inv w0 ps0 H0 H' [] w') (_ : K r0 H'), R (vs r0) w') (h : G6 x0 H K) : F76 (vs x0) (fC 77) w R E := by
 unfold G6 at h
 unfold F76
 have hj1 : ∀ (D9 : (List d9)) (q8 : Sl) (Fs5j1 : Frag) (H : Hp) (w : World) (_ : RowL 150 1 s8 q8 D9 Fs5j1) (_ : Inv w0 ps0 H0 H [Fs5j1] w) (_ : E6 D9 H K), c9a (vs q8) w R E := by
  intro D9 q8 Fs5j1 H w a4i I h
  unfold c9a
  intro _
  unfold E6 at h
  obtain ⟨K1, a3A, a6y, a1l, a3B⟩ := Inv.freezeC I a4i (by decide)
  replace h := h q8 K1 a6y a1l a3B
  exact hR q8 K1 _ a3A h
 refine v8 fun j1 hx1 => ?_
 refine a7 (b4n _ _ _) ?_
 obtain ⟨Y6, N9, a7A, a7B⟩ := h
 refine L6 (J := fun n l w => ∃ (s : (List d9) × Int) (H : Hp) (A7 : Sl) (Fs5l2 : Frag) , n = N9 s ∧ l = (match s with | (m3, m6) => [(vs A7), (vi m6)]) ∧ (match s with | (m3, m6) => RowL 150 1 s8 A7 m3 Fs5l2) ∧ (match s with | (m3, m6) => Inv w0 ps0 H0 H [Fs5l2] w) ∧ Y6 s H) ⟨_, ([], 0), H, (Sl.mk none 0 0), [], rfl, rfl, (RowL.nil P9 Q9), I.nil, a7A⟩ ?_
 rintro b9q τ_50 w next2 ⟨⟨m3, m6⟩, H, A7, Fs5l2, rfl, X2, P3, I, a7C⟩ hn2
 dsimp only at X2 I P3
 simp only [List.map_cons, List.map_nil, List.cons.injEq, and_true] at X2
 obtain ⟨e5, e10⟩ := X2
 simp only [e5, e10]
 obtain ⟨n2, hm2, h⟩ : ∃ n2 : ((List d9) × Int) → Hp → Prop, (∀ s' H', n2 s' H' → Y6 s' H' ∧ N9 s' < N9 (m3, m6)) ∧ E7 x0 (x0.n : Int) m3 m6 H n2 K := ⟨_, fun _ _ h => h, a7B (m3, m6) H (fun s' H' => Y6 s' H' ∧ N9 s' < N9 (m3, m6)) a7C (fun _ _ a b => ⟨a, b⟩)⟩
 unfold d9O
 unfold E7 at h
 refine a7 (C2 _ _ _ _ _ _) ?_
 refine i8 (fun V4 => ?_) (fun V4 => ?_)
 ·replace h := h.1 V4
  obtain ⟨h_4, h_5, x_1, h_7, h⟩ := h
  obtain ⟨g_2, o_3, h_6, h_7⟩ := h_7
  refine a7 (b6G h_6 _ _ _ _ h_4 h_5) ?_
  refine d6 (ldA (vs := (p8 x_1)) Tryz.isAgg71 Tryz.sizeOf71 rfl (I.atH h_7)) ?_
  refine u1 I Tryz.zeroValue71 (cs := [(eS), (vi 0)]) rfl fun g_9 o7 a0R a9D => ?_
  refine l9 a0R Tryz.sizeOf71 (vs := (p8 x_1)) (cs' := (p8 x_1)) rfl rfl (nb rfl) rfl rfl fun Z2 P0 a3P => ?_
  refine d6 (ldA Tryz.isAgg71 Tryz.sizeOf71 rfl (P0.at1 (o := 0) (vs := (p8 x_1)) (nb rfl) rfl)) ?_
  refine d8 (cap := []) (fun args w => Tryz.call77 args w) ?_
  refine m4 (Fi := []) (Fr := [bx g_9 71 (p8 x_1), Fs5l2]) P0 (h) (fun b6V Q2 b4V a0q a2F b6W b6X a6z => ?_) (fun _ _ _ _ _ q => q.elim)
  obtain ⟨E0, rfl, rfl, h⟩ := a6z
  refine a0m (e := 150) (c := s8) (xs := [E0]) a2F (b0c _) rfl rfl P9 Q9 (nb rfl) fun b1y a9E C4 a4D V5 a7D => ?_
  obtain ⟨a6A, h⟩ := h
  refine b5F (s := A7) (xs := m3) (V5.bring 2) P3 (a4D.srcO ((V5.bring 2).bring 1)) a6A fun a4j a6B A6 a3Q a3C b2U => ?_
  refine a7 (J8 _ _ _ _ _ _) ?_
  exact hn2 _ _ _ (hm2 _ _ h).2 ⟨((m3 ++ [E0]), (IntKind.wrap .i64 (m6 + 1))), Q2, a4j, a6B, rfl, rfl, a3Q, ((a3C.bring 1).drop.bring 1).drop, (hm2 _ _ h).1⟩
 ·replace h := h.2 V4
  exact hx1 _ _ (hj1 m3 A7 Fs5l2 H _ P3 I h)
theorem a2G (x0 : Sl) {H : Hp} {K : Sl → Hp → Prop} (h : G6 x0 H K) : N3 x0 H K := by
 intro w I
 refine f6Z ?_
 refine a2x x0 I (fun r0 H' w' I' hk => ⟨H', _, I', r0, rfl, rfl, hk⟩) h
def E8 (D9 : (List d9)) (H : Hp) (K : Sl → Hp → Prop) : Prop :=
 ∀ (q8 : Sl) (K1 : Hp), Hle H K1 → SlH K1 1 s8 q8 D9 → q8.n ≤ q8.c →
 K q8 K1
def E9 (U6 : Sl) (T4 : Int) (m3 : (List d9)) (m6 : Int) (H : Hp) (n2 : ((List d9) × Int) → Hp → Prop) (K : Sl → Hp → Prop) : Prop :=
 (m6 < T4 →
 (0 : Int) ≤ m6 ∧ (m6 : Int) < U6.n ∧ ∃ x_1 : d7, EltH H U6 m6 6 (g7 x_1) ∧
 a9A x_1 H (fun (E0 : d9) (Q2 : Hp) =>
 (m3.length + ([E0] : List d9).length) * 17 ≤ 140737488355328 ∧
 n2 ((m3 ++ [E0]), (IntKind.wrap .i64 (m6 + 1))) Q2)) ∧
 (¬ (m6 < T4) →
 E8 m3 H K)
def G7 (x0 : Sl) (H : Hp) (K : Sl → Hp → Prop) : Prop :=
 TL (([], 0) : (List d9) × Int) H fun (s : (List d9) × Int) H n2 => E9 x0 (x0.n : Int) s.1 s.2 H n2 K
theorem a2y (x0 : Sl) {K : Sl → Hp → Prop} (I : Inv w0 ps0 H0 H [] w) (hR : ∀ (r0 : Sl) (H' : Hp) (w' : World) (_ : Inv w0 ps0 H0 H' [] w') (_ : K r0 H'), R (vs r0) w') (h : G7 x0 H K) : F78 (vs x0) (fC 79) w R E := by
 unfold G7 at h
 unfold F78
 have hj1 : ∀ (D9 : (List d9)) (q8 : Sl) (Fs5j1 : Frag) (H : Hp) (w : World) (_ : RowL 150 1 s8 q8 D9 Fs5j1) (_ : Inv w0 ps0 H0 H [Fs5j1] w) (_ : E8 D9 H K), c9b (vs q8) w R E := by
  intro D9 q8 Fs5j1 H w a4i I h
  unfold c9b
  intro _
  unfold E8 at h
  obtain ⟨K1, a3A, a6y, a1l, a3B⟩ := Inv.freezeC I a4i (by decide)
  replace h := h q8 K1 a6y a1l a3B
  exact hR q8 K1 _ a3A h
 refine v8 fun j1 hx1 => ?_
 refine a7 (a6c _ _ _) ?_
 obtain ⟨Y6, N9, a7A, a7B⟩ := h
 refine L6 (J := fun n l w => ∃ (s : (List d9) × Int) (H : Hp) (A7 : Sl) (Fs5l2 : Frag) , n = N9 s ∧ l = (match s with | (m3, m6) => [(vs A7), (vi m6)]) ∧ (match s with | (m3, m6) => RowL 150 1 s8 A7 m3 Fs5l2) ∧ (match s with | (m3, m6) => Inv w0 ps0 H0 H [Fs5l2] w) ∧ Y6 s H) ⟨_, ([], 0), H, (Sl.mk none 0 0), [], rfl, rfl, (RowL.nil P9 Q9), I.nil, a7A⟩ ?_
 rintro b9q τ_50 w next2 ⟨⟨m3, m6⟩, H, A7, Fs5l2, rfl, X2, P3, I, a7C⟩ hn2
 dsimp only at X2 I P3
 simp only [List.map_cons, List.map_nil, List.cons.injEq, and_true] at X2
 obtain ⟨e5, e10⟩ := X2
 simp only [e5, e10]
 obtain ⟨n2, hm2, h⟩ : ∃ n2 : ((List d9) × Int) → Hp → Prop, (∀ s' H', n2 s' H' → Y6 s' H' ∧ N9 s' < N9 (m3, m6)) ∧ E9 x0 (x0.n : Int) m3 m6 H n2 K := ⟨_, fun _ _ h => h, a7B (m3, m6) H (fun s' H' => Y6 s' H' ∧ N9 s' < N9 (m3, m6)) a7C (fun _ _ a b => ⟨a, b⟩)⟩
 unfold d9P
 unfold E9 at h
 refine a7 (C2 _ _ _ _ _ _) ?_
 refine i8 (fun V4 => ?_) (fun V4 => ?_)
 ·replace h := h.1 V4
  obtain ⟨h_4, h_5, x_1, h_7, h⟩ := h
  obtain ⟨g_2, o_3, h_6, h_7⟩ := h_7
  refine a7 (b2F h_6 _ _ _ _ h_4 h_5) ?_
  refine d6 (ldA (vs := (g7 x_1)) Tryz.isAgg73 Tryz.sizeOf73 rfl (I.atH h_7)) ?_
  refine u1 I Tryz.zeroValue73 (cs := [(vi 0), (eS), (nS), (nS), (nS), (nS)]) rfl fun g_9 o7 a0R a9D => ?_
  refine l9 a0R Tryz.sizeOf73 (vs := (g7 x_1)) (cs' := (g7 x_1)) rfl rfl (nb rfl) rfl rfl fun Z2 P0 a3P => ?_
  refine d6 (ldA Tryz.isAgg73 Tryz.sizeOf73 rfl (P0.at1 (o := 0) (vs := (g7 x_1)) (nb rfl) rfl)) ?_
  refine d8 (cap := []) (fun args w => Tryz.call79 args w) ?_
  refine m4 (Fi := []) (Fr := [bx g_9 73 (g7 x_1), Fs5l2]) P0 (h) (fun b6V Q2 b4V a0q a2F b6W b6X a6z => ?_) (fun _ _ _ _ _ q => q.elim)
  obtain ⟨E0, rfl, rfl, h⟩ := a6z
  refine a0m (e := 150) (c := s8) (xs := [E0]) a2F (b0c _) rfl rfl P9 Q9 (nb rfl) fun b1y a9E C4 a4D V5 a7D => ?_
  obtain ⟨a6A, h⟩ := h
  refine b5F (s := A7) (xs := m3) (V5.bring 2) P3 (a4D.srcO ((V5.bring 2).bring 1)) a6A fun a4j a6B A6 a3Q a3C b2U => ?_
  refine a7 (J8 _ _ _ _ _ _) ?_
  exact hn2 _ _ _ (hm2 _ _ h).2 ⟨((m3 ++ [E0]), (IntKind.wrap .i64 (m6 + 1))), Q2, a4j, a6B, rfl, rfl, a3Q, ((a3C.bring 1).drop.bring 1).drop, (hm2 _ _ h).1⟩
 ·replace h := h.2 V4
  exact hx1 _ _ (hj1 m3 A7 Fs5l2 H _ P3 I h)
theorem a2H (x0 : Sl) {H : Hp} {K : Sl → Hp → Prop} (h : G7 x0 H K) : A0 x0 H K := by
 intro w I
 refine f7d ?_
 refine a2y x0 I (fun r0 H' w' I' hk => ⟨H', _, I', r0, rfl, rfl, hk⟩) h
def a1K (x0 : L5) (H : Hp) (K : Sl → Hp → Prop) : Prop :=
 A4 x0.r6.o0 H (fun (W4 : Sl) (H_6 : Hp) =>
 K W4 H_6)
theorem b1X (x0 : L5) {K : Sl → Hp → Prop} (I : Inv w0 ps0 H0 H [] w) (hR : ∀ (r0 : Sl) (H' : Hp) (w' : World) (_ : Inv w0 ps0 H0 H' [] w') (_ : K r0 H'), R (vs r0) w') (h : a1K x0 H K) : d5R (Value.agg (b7 x0.r6).toArray) w R E := by
 unfold a1K at h
 unfold d5R
 refine M4 I (cs := (b7 x0.r6)) rfl fun g_2 w_3 I_4 k_5 => ?_
 refine a7 a1v ?_
 refine a7 K4 ?_
 refine d6 (ld1 Tryz.isAgg51 (I_4.at1 (o := 3) (vs := [(vs x0.r6.o0)]) (nb rfl) rfl)) ?_
 refine d8 (cap := []) (fun args w => Tryz.call189 args w) ?_
 refine m4 (Fi := []) (Fr := [bx g_2 136 (b7 x0.r6)]) I_4 (h) (fun c5Y H_6 c5Z w_7 I_8 c6a k_9 b0g => ?_) (fun _ _ _ _ _ q => q.elim)
 obtain ⟨W4, rfl, rfl, h⟩ := b0g
 exact hR W4 H_6 _ I_8.drop h
theorem b2V (x0 : L5) {H : Hp} {K : Sl → Hp → Prop} (h : a1K x0 H K) : a7w x0 H K := by
 intro w I
 refine f0o ?_
 refine b1X x0 I (fun r0 H' w' I' hk => ⟨H', _, I', r0, rfl, rfl, hk⟩) h
def a4k (x0 : b9) (H : Hp) (K : d9 → Hp → Prop) : Prop :=
 K (d9.N6 (O3.mk x0)) H
theorem b5N (x0 : b9) {K : d9 → Hp → Prop} (I : Inv w0 ps0 H0 H [] w) (hR : ∀ (r0 : d9) (H' : Hp) (w' : World) (_ : Inv w0 ps0 H0 H' [] w') (_ : K r0 H'), R (C3 r0) w') (h : a4k x0 H K) : d5Y (Value.agg (d5 x0).toArray) w R E := by
 unfold a4k at h
 unfold d5Y
 refine M4 I (cs := (d5 x0)) rfl fun g_2 w_3 I_4 k_5 => ?_
 refine d6 (ldA Tryz.isAgg59 Tryz.sizeOf59 rfl (I_4.at1 (o := 0) (vs := (d5 x0)) (nb rfl) rfl)) ?_
 refine a7 (b8M _ _ _ _ _ _ _ _) ?_
 refine a7 (b5E (O3.mk x0)) ?_
 exact hR (d9.N6 (O3.mk x0)) H _ I_4.drop h
theorem b6Y (x0 : b9) {H : Hp} {K : d9 → Hp → Prop} (h : a4k x0 H K) : a9C x0 H K := by
 intro w I
 refine f0B ?_
 refine b5N x0 I (fun r0 H' w' I' hk => ⟨H', _, I', r0, rfl, rfl, hk⟩) h
def a1L (x0 : O3) (H : Hp) (K : Sl → Hp → Prop) : Prop :=
 A4 x0.p9.f2 H (fun (a9F : Sl) (H_8 : Hp) =>
 G5 x0.p9.r7 H_8 (fun (a9G : Sl) (a8M : Hp) =>
 ∀ (b0h : Sl) (b2W : Hp), Hle a8M b2W → SlH b2W 1 csl b0h [a9F, a9G] → b0h.n ≤ b0h.c →
 G4 b0h b2W (fun (c0N : Sl) (b1z : Hp) =>
 K c0N b1z)))
theorem b1Y (x0 : O3) {K : Sl → Hp → Prop} (I : Inv w0 ps0 H0 H [] w) (hR : ∀ (r0 : Sl) (H' : Hp) (w' : World) (_ : Inv w0 ps0 H0 H' [] w') (_ : K r0 H'), R (vs r0) w') (h : a1L x0 H K) : d5W (Value.agg (d5 x0.p9).toArray) w R E := by
 unfold a1L at h
 unfold d5W
 refine M4 I (cs := (d5 x0.p9)) rfl fun g_2 w_3 I_4 k_5 => ?_
 refine V0 I_4 fun w_6 I_7 => ?_
 refine l7 a2Y ?_
 refine l7 a1C ?_
 refine l7 a2Y ?_
 refine l7 V3 ?_
 refine t6 (ld1 Tryz.isAgg51 (I_7.at1 (o := 2) (vs := [(vs x0.p9.f2)]) (nb rfl) rfl)) ?_
 refine t6 (ld1 Tryz.isAgg57 (I_7.at1 (o := 3) (vs := [(vs x0.p9.r7)]) (nb rfl) rfl)) ?_
 refine d8 (cap := []) (fun args w => Tryz.call189 args w) ?_
 refine m4 (Fi := []) (Fr := [bx g_2 143 (d5 x0.p9)]) I_7 (h) (fun g0z H_8 g0A w_9 b1A c6b b9r d0b => ?_) (fun _ _ _ _ _ q => q.elim)
 obtain ⟨a9F, rfl, rfl, h⟩ := d0b
 refine ⟨(b9r _ I_7.lt1 (Inv.a3r (Fi := []) I_7)), ?_⟩
 refine d8 (cap := []) (fun args w => Tryz.call193 args w) ?_
 refine m4 (Fi := []) (Fr := [bx g_2 143 (d5 x0.p9)]) b1A (h) (fun g0B a8M g0C t8 b2X g0D c6c d0c => ?_) (fun _ _ _ _ _ q => q.elim)
 obtain ⟨a9G, rfl, rfl, h⟩ := d0c
 refine a0m (e := 137) (c := csl) (xs := [a9F, a9G]) b2X (c8H _ _ _ _ _ _) rfl rfl c0C c0D (nb rfl) fun b0h d0d a9H d0e c9W g0x => ?_
 obtain ⟨b2W, c2e, c5K, d0f, e3L⟩ := Inv.freezeC c9W d0e (by decide)
 replace h := h b0h b2W c5K d0f e3L
 refine d8 (cap := []) (fun args w => Tryz.call75 args w) ?_
 refine m4 (Fi := []) (Fr := [bx g_2 143 (d5 x0.p9)]) c2e (h) (fun h7e b1z h7f b1B a3A h7g g0E e3M => ?_) (fun _ _ _ _ _ q => q.elim)
 obtain ⟨c0N, rfl, rfl, h⟩ := e3M
 exact hR c0N b1z _ a3A.drop h
theorem b2Y (x0 : O3) {H : Hp} {K : Sl → Hp → Prop} (h : a1L x0 H K) : a7x x0 H K := by
 intro w I
 refine f0x ?_
 refine b1Y x0 I (fun r0 H' w' I' hk => ⟨H', _, I', r0, rfl, rfl, hk⟩) h
def a2j (x0 : V1) (H : Hp) (K : Bool → Hp → Prop) : Prop :=
 K ((decide (0 ≤ x0.V2.Q3)) && (decide (x0.V2.Q3 ≤ 2147483647))) H
theorem b2Z (x0 : V1) {K : Bool → Hp → Prop} (I : Inv w0 ps0 H0 H [] w) (hR : ∀ (r0 : Bool) (H' : Hp) (w' : World) (_ : Inv w0 ps0 H0 H' [] w') (_ : K r0 H'), R (vB r0) w') (h : a2j x0 H K) : d5Z (Value.agg (p8 x0.V2).toArray) w R E := by
 unfold a2j at h
 unfold d5Z
 refine M4 I (cs := (p8 x0.V2)) rfl fun g_2 w_3 I_4 k_5 => ?_
 refine a7 b4R ?_
 refine a7 a6k ?_
 refine d6 (ld1 Tryz.isAgg3 (I_4.at1 (o := 1) (vs := [(vi x0.V2.Q3)]) (nb rfl) rfl)) ?_
 refine a7 (b5B _ _ _ _ _ _) ?_
 refine a7 (Pu.g fun hb => by have i5 := hb; exact b4R) ?_
 refine a7 (Pu.g fun hb => by have i5 := hb; simp only [r8 i5]; exact a6k) ?_
 refine d6 (Ld.g fun hb => by have i5 := hb; simp only [r8 i5]; exact (ld1 Tryz.isAgg3 (I_4.at1 (o := 1) (vs := [(vi x0.V2.Q3)]) (nb rfl) rfl))) ?_
 refine a7 (Pu.g fun hb => by have i5 := hb; simp only [r8 i5]; exact (b8C _ _ _ _ _ _)) ?_
 refine a7 (P7 _ _) ?_
 exact hR ((decide (0 ≤ x0.V2.Q3)) && (decide (x0.V2.Q3 ≤ 2147483647))) H _ I_4.drop h
theorem b3U (x0 : V1) {H : Hp} {K : Bool → Hp → Prop} (h : a2j x0 H K) : a8k x0 H K := by
 intro w I
 refine f0D ?_
 refine b2Z x0 I (fun r0 H' w' I' hk => ⟨H', _, I', r0, rfl, rfl, hk⟩) h
end Go.Proofs.YtnhkdkcgdcgmdaaGreatDoor
