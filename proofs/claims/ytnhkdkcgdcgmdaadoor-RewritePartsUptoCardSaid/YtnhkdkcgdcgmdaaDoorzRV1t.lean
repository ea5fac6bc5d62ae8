/- Typed formulas of the program's functions that few laws need; printed by lift.py off the code. -/
import Derived.Test.YtnhkdkcgdcgmdaaDoorzRV1
import Derived.Test.YtnhkdkcgdcgmdaaDoorzRG1t
namespace Go.Proofs.YtnhkdkcgdcgmdaaDoor
open Go.RowKit
set_option maxRecDepth 100000
set_option maxHeartbeats 2000000
def a0R (x0 : Int) (H : Hp) (K : a7 → Hp → Prop) : Prop :=
 K (a7.mk 1 x0 ⟨#[]⟩ (Sl.mk none 0 0)) H
theorem b1z (x0 : Int) {w0 w : World} {ps0 : Nat → Prop} {H0 H : Hp} {K : a7 → Hp → Prop} {R : Value → World → Prop} {E : Pan} (I : Inv w0 ps0 H0 H [] w) (hR : ∀ (r0 : a7) (H' : Hp) (w' : World) (_ : Inv w0 ps0 H0 H' [] w') (_ : K r0 H'), R (Value.agg (b8 r0).toArray) w') (h : a0R x0 H K) : F36 (vi x0) w R E := by
 unfold a0R at h
 unfold F36
 refine u2 I Tryd.zeroValue24 (cs := [(vi 0), (vi 0), (Value.string ⟨#[]⟩), (Value.slice none 0 0)]) rfl fun g_2 w_3 I_4 k_5 => ?_
 refine a8 (a5K _ _) ?_
 refine k3 I_4 Tryd.sizeOf24 (vs := [(vi 1), (vi x0), (Value.string ⟨#[]⟩), (Value.slice none 0 0)]) (cs' := [(vi 1), (vi x0), (Value.string ⟨#[]⟩), (Value.slice none 0 0)]) rfl rfl (nb rfl) rfl rfl fun w_6 I_7 k_8 => ?_
 refine t6 Tryd.isAgg24 Tryd.sizeOf24 rfl (I_7.at1 (o := 0) (vs := [(vi 1), (vi x0), (Value.string ⟨#[]⟩), (Value.slice none 0 0)]) (nb rfl) rfl) ?_
 exact hR (a7.mk 1 x0 ⟨#[]⟩ (Sl.mk none 0 0)) H _ I_7.drop h
theorem b3u (x0 : Int) {H : Hp} {K : a7 → Hp → Prop} (h : a0R x0 H K) : N1 x0 H K := by
 intro w I
 refine g5d ?_
 refine b1z x0 I (fun r0 H' w' I' hk => ⟨H', _, I', r0, rfl, rfl, hk⟩) h
def S4 (x0 : a7) (H : Hp) (K : Int → Bool → Hp → Prop) : Prop :=
 (x0.b9 = 1 →
 K x0.g9 true H) ∧
 (¬ (x0.b9 = 1) →
 ∃ x_6 : a7, ((decide (x0.b9 = 5)) = true → (0 : Int) ≤ 0 ∧ (0 : Int) < x0.d8.n ∧ EltH H x0.d8 0 4 (b8 x_6)) ∧
 (((decide (x0.b9 = 5)) && (decide (x_6.b9 = 1))) = true →
 (0 : Int) ≤ 0 ∧ (0 : Int) < x0.d8.n ∧ ∃ X7 : a7, EltH H x0.d8 0 4 (b8 X7) ∧
 K (IntKind.wrap .i64 (0 - X7.g9)) true H) ∧
 (((decide (x0.b9 = 5)) && (decide (x_6.b9 = 1))) = false →
 K 0 false H))
theorem b0T (x0 : a7) {w0 w : World} {ps0 : Nat → Prop} {H0 H : Hp} {K : Int → Bool → Hp → Prop} {R : Value → World → Prop} {E : Pan} (I : Inv w0 ps0 H0 H [] w) (hR : ∀ (r0 : Int) (r1 : Bool) (H' : Hp) (w' : World) (_ : Inv w0 ps0 H0 H' [] w') (_ : K r0 r1 H'), R (Value.tuple #[(vi r0), (Value.bool r1)]) w') (h : S4 x0 H K) : F62 (Value.agg (b8 x0).toArray) w R E := by
 unfold S4 at h
 unfold F62
 refine F7 I (cs := (b8 x0)) rfl fun g_2 w_3 I_4 k_5 => ?_
 refine a8 m9 ?_
 refine d9 (ld1 Tryd.isAgg3 (I_4.at1 (o := 0) (vs := [(vi x0.b9)]) (nb rfl) rfl)) ?_
 refine a8 (f4 _ _ _ _ _ _) ?_
 refine g8 (fun a5w => ?_) (fun a5w => ?_)
 ·replace h := h.1 a5w
  refine a8 B4 ?_
  refine d9 (ld1 Tryd.isAgg2 (I_4.at1 (o := 1) (vs := [(vi x0.g9)]) (nb rfl) rfl)) ?_
  exact hR x0.g9 true H _ I_4.drop h
 ·replace h := h.2 a5w
  refine a8 m9 ?_
  refine d9 (ld1 Tryd.isAgg3 (I_4.at1 (o := 0) (vs := [(vi x0.b9)]) (nb rfl) rfl)) ?_
  refine a8 (f4 _ _ _ _ _ _) ?_
  refine a8 (Pu.g fun hb => by have b6 := hb; first | exact i8 | (simp only [d7 b6, b7 b6, b7 hb, m8 b6]; exact i8) | (simp only [d7 b6, b7 b6, b7 hb, f8 b6, f9]; exact i8)) ?_
  refine d9 (Ld.g fun hb => by have b6 := hb; first | exact (ld1 Tryd.isAgg22 (I_4.at1 (o := 3) (vs := [(vs x0.d8)]) (nb rfl) rfl)) | (simp only [b7 b6]; exact (ld1 Tryd.isAgg22 (I_4.at1 (o := 3) (vs := [(vs x0.d8)]) (nb rfl) rfl))) | (simp only [d7 b6, b7 b6, b7 hb, f8 b6, f9]; exact (ld1 Tryd.isAgg22 (I_4.at1 (o := 3) (vs := [(vs x0.d8)]) (nb rfl) rfl)))) ?_
  obtain ⟨x_6, a0S, h⟩ := h
  obtain ⟨g_7, o_8, a0S⟩ := b0p a0S
  refine a8 (Pu.g fun hb => by have b6 := hb; first | exact (m7 (a0S hb).2.2.1 _ _ _ _ (a0S hb).1 (a0S hb).2.1) | (simp only [b7 b6]; exact (m7 (a0S hb).2.2.1 _ _ _ _ (a0S hb).1 (a0S hb).2.1)) | (simp only [d7 b6, b7 b6, b7 hb, f8 b6, f9]; exact (m7 (a0S hb).2.2.1 _ _ _ _ (a0S hb).1 (a0S hb).2.1))) ?_
  refine a8 (Pu.g fun hb => by have b6 := hb; first | exact m9 | (simp only [b7 b6]; exact m9) | (simp only [d7 b6, b7 b6, b7 hb, f8 b6, f9]; exact m9)) ?_
  refine d9 (Ld.g fun hb => by have b6 := hb; first | exact (ld1 (v := (vi x_6.b9)) Tryd.isAgg3 ((I_4.atH (a0S hb).2.2.2).sub (k := 0) (n := 1) (nb rfl))) | (simp only [b7 b6]; exact (ld1 (v := (vi x_6.b9)) Tryd.isAgg3 ((I_4.atH (a0S hb).2.2.2).sub (k := 0) (n := 1) (nb rfl)))) | (simp only [d7 b6, b7 b6, b7 hb, f8 b6, f9]; exact (ld1 (v := (vi x_6.b9)) Tryd.isAgg3 ((I_4.atH (a0S hb).2.2.2).sub (k := 0) (n := 1) (nb rfl))))) ?_
  refine a8 (Pu.g fun hb => by have b6 := hb; first | exact (f4 _ _ _ _ _ _) | (simp only [b7 b6]; exact (f4 _ _ _ _ _ _)) | (simp only [d7 b6, b7 b6, b7 hb, f8 b6, f9]; exact (f4 _ _ _ _ _ _))) ?_
  refine a8 (k9 _ _) ?_
  refine j9 (fun a3x => ?_) (fun a3x => ?_)
  ·replace h := h.1 a3x
   refine a8 i8 ?_
   refine d9 (ld1 Tryd.isAgg22 (I_4.at1 (o := 3) (vs := [(vs x0.d8)]) (nb rfl) rfl)) ?_
   obtain ⟨a9Y, a9Z, X7, a1M, h⟩ := h
   obtain ⟨d4F, d4G, b6R, a1M⟩ := a1M
   refine a8 (m7 b6R _ _ _ _ a9Y a9Z) ?_
   refine a8 B4 ?_
   refine d9 (ld1 (v := (vi X7.g9)) Tryd.isAgg2 ((I_4.atH a1M).sub (k := 1) (n := 1) (nb rfl))) ?_
   refine a8 (b5k _ _) ?_
   exact hR (IntKind.wrap .i64 (0 - X7.g9)) true H _ I_4.drop h
  ·replace h := h.2 a3x
   exact hR 0 false H _ I_4.drop h
theorem b1A (x0 : a7) {H : Hp} {K : Int → Bool → Hp → Prop} (h : S4 x0 H K) : H7 x0 H K := by
 intro w I
 refine g7j ?_
 refine b0T x0 I (fun r0 r1 H' w' I' hk => ⟨H', _, I', r0, r1, rfl, rfl, hk⟩) h
def a3L (x0 : a7) (x1 : Int) (H : Hp) (K : Bool → Hp → Prop) : Prop :=
 H7 x0 H (fun (T2 : Int) (a5Z : Bool) (H_6 : Hp) =>
 K (a5Z && (decide (T2 = x1))) H_6)
theorem b7w (x0 : a7) (x1 : Int) {w0 w : World} {ps0 : Nat → Prop} {H0 H : Hp} {K : Bool → Hp → Prop} {R : Value → World → Prop} {E : Pan} (I : Inv w0 ps0 H0 H [] w) (hR : ∀ (r0 : Bool) (H' : Hp) (w' : World) (_ : Inv w0 ps0 H0 H' [] w') (_ : K r0 H'), R (Value.bool r0) w') (h : a3L x0 x1 H K) : F65 (Value.agg (b8 x0).toArray) (vi x1) w R E := by
 unfold a3L at h
 unfold F65
 refine F7 I (cs := (b8 x0)) rfl fun g_2 w_3 I_4 k_5 => ?_
 refine d9 (ldA Tryd.isAgg24 Tryd.sizeOf24 rfl (I_4.at1 (o := 0) (vs := (b8 x0)) (nb rfl) rfl)) ?_
 refine f5 (cap := []) (fun args w => Tryd.call62 args w) ?_
 refine i6 (Fi := []) (Fr := [bx g_2 24 (b8 x0)]) I_4 (h) (fun c1t H_6 b8E w_7 I_8 c1u k_9 a7Z => ?_) (fun _ _ _ _ _ q => q.elim)
 obtain ⟨T2, a5Z, rfl, rfl, h⟩ := a7Z
 refine a8 (i4 _ _ (vi T2) rfl) ?_
 refine a8 (i4 _ _ (Value.bool a5Z) rfl) ?_
 try simp only [m4]
 try simp only [m4, F8, P1, M9, G2, P5, P2, P3, P4, P6]
 refine a8 (Pu.g fun hb => by have b6 := hb; first | exact (f4 _ _ _ _ _ _) | (simp only [b7 b6]; exact (f4 _ _ _ _ _ _)) | (simp only [d7 b6, b7 b6, b7 hb, f8 b6, f9]; exact (f4 _ _ _ _ _ _))) ?_
 refine a8 (k9 _ _) ?_
 exact hR (a5Z && (decide (T2 = x1))) H_6 _ I_8.drop h
theorem b7N (x0 : a7) (x1 : Int) {H : Hp} {K : Bool → Hp → Prop} (h : a3L x0 x1 H K) : R6 x0 x1 H K := by
 intro w I
 refine g7N ?_
 refine b7w x0 x1 I (fun r0 H' w' I' hk => ⟨H', _, I', r0, rfl, rfl, hk⟩) h
def u6 (R9 : (List a7)) (H : Hp) (K : Sl → Hp → Prop) : Prop :=
 ∀ (A7 : Sl) (U8 : Hp), Hle H U8 → SlH U8 4 b8 A7 R9 → A7.n ≤ A7.c →
 K A7 U8
def u7 (a0X : Sl) (a6H : Int) (r6 : (List a7)) (p6 : Int) (H : Hp) (n2 : ((List a7) × Int) → Hp → Prop) (K : Sl → Hp → Prop) : Prop :=
 (p6 < a6H →
 (0 : Int) ≤ p6 ∧ (p6 : Int) < a0X.n ∧ ∃ x_1 : a7, EltH H a0X p6 4 (b8 x_1) ∧
 a2l x_1 H (fun (L0 : a7) (Z9 : Hp) =>
 (r6.length + ([L0] : List a7).length) * 57 ≤ 140737488355328 ∧
 n2 ((r6 ++ [L0]), (IntKind.wrap .i64 (p6 + 1))) Z9)) ∧
 (¬ (p6 < a6H) →
 u6 r6 H K)
def w8 (x0 : Sl) (H : Hp) (K : Sl → Hp → Prop) : Prop :=
 TL (([], 0) : (List a7) × Int) H fun (s : (List a7) × Int) H n2 => u7 x0 (x0.n : Int) s.1 s.2 H n2 K
theorem a0t (x0 : Sl) {w0 w : World} {ps0 : Nat → Prop} {H0 H : Hp} {K : Sl → Hp → Prop} {R : Value → World → Prop} {E : Pan} (I : Inv w0 ps0 H0 H [] w) (hR : ∀ (r0 : Sl) (H' : Hp) (w' : World) (_ : Inv w0 ps0 H0 H' [] w') (_ : K r0 H'), R (vs r0) w') (h : w8 x0 H K) : F61 (vs x0) (Value.func (.func 38) #[] #[]) w R E := by
 unfold w8 at h
 unfold F61
 have hj1 : ∀ (R9 : (List a7)) (A7 : Sl) (Fs5j1 : Frag) (H : Hp) (w : World) (_ : RowL 24 4 b8 A7 R9 Fs5j1) (_ : Inv w0 ps0 H0 H [Fs5j1] w) (_ : u6 R9 H K), d1y (vs A7) w R E := by
  intro R9 A7 Fs5j1 H w b1i I h
  unfold d1y
  intro _
  unfold u6 at h
  obtain ⟨U8, b2o, b4P, a5V, a6I⟩ := Inv.freezeC I b1i (by decide)
  replace h := h A7 U8 b4P a5V a6I
  exact hR A7 U8 _ b2o h
 refine s8 fun j1 hx1 => ?_
 refine a8 (q6 _ _ _) ?_
 obtain ⟨a5u, a0E, b6A, b6B⟩ := h
 refine I0 (J := fun n l w => ∃ (s : (List a7) × Int) (H : Hp) (S2 : Sl) (Fs5l2 : Frag) , n = a0E s ∧ l = (match s with | (r6, p6) => [(vs S2), (vi p6)]) ∧ (match s with | (r6, p6) => RowL 24 4 b8 S2 r6 Fs5l2) ∧ (match s with | (r6, p6) => Inv w0 ps0 H0 H [Fs5l2] w) ∧ a5u s H) ⟨_, ([], 0), H, (Sl.mk none 0 0), [], rfl, rfl, (RowL.nil P7 P8), I.nil, b6A⟩ ?_
 rintro d4u τ_50 w next2 ⟨⟨r6, p6⟩, H, S2, Fs5l2, rfl, a4C, a2S, I, b6C⟩ hn2
 dsimp only at a4C I a2S
 simp only [List.map_cons, List.map_nil, List.cons.injEq, and_true] at a4C
 obtain ⟨e5, e10⟩ := a4C
 simp only [e5, e10]
 obtain ⟨n2, hm2, h⟩ : ∃ n2 : ((List a7) × Int) → Hp → Prop, (∀ s' H', n2 s' H' → a5u s' H' ∧ a0E s' < a0E (r6, p6)) ∧ u7 x0 (x0.n : Int) r6 p6 H n2 K := ⟨_, fun _ _ h => h, b6B (r6, p6) H (fun s' H' => a5u s' H' ∧ a0E s' < a0E (r6, p6)) b6C (fun _ _ a b => ⟨a, b⟩)⟩
 unfold e0D
 unfold u7 at h
 refine a8 (o3 _ _ _ _ _ _) ?_
 refine g8 (fun a3v => ?_) (fun a3v => ?_)
 ·replace h := h.1 a3v
  obtain ⟨h_4, h_5, x_1, h_7, h⟩ := h
  obtain ⟨g_2, o_3, h_6, h_7⟩ := h_7
  refine a8 (m7 h_6 _ _ _ _ h_4 h_5) ?_
  refine d9 (ldA (vs := (b8 x_1)) Tryd.isAgg24 Tryd.sizeOf24 rfl (I.atH h_7)) ?_
  refine u2 I Tryd.zeroValue24 (cs := [(vi 0), (vi 0), (Value.string ⟨#[]⟩), (Value.slice none 0 0)]) rfl fun g_9 l0 a3w b4Q => ?_
  refine k3 a3w Tryd.sizeOf24 (vs := (b8 x_1)) (cs' := (b8 x_1)) rfl rfl (nb rfl) rfl rfl fun a2w J7 a2T => ?_
  refine d9 (ldA Tryd.isAgg24 Tryd.sizeOf24 rfl (J7.at1 (o := 0) (vs := (b8 x_1)) (nb rfl) rfl)) ?_
  refine f5 (cap := []) (fun args w => Tryd.call38 args w) ?_
  refine i6 (Fi := []) (Fr := [bx g_9 24 (b8 x_1), Fs5l2]) J7 (h) (fun c9g Z9 c5f a1C a5r c9h c9i b2p => ?_) (fun _ _ _ _ _ q => q.elim)
  obtain ⟨L0, rfl, rfl, h⟩ := b2p
  refine a5R (e := 24) (c := b8) (xs := [L0]) a5r (b5m _ _ _ _ _ _) rfl rfl P7 P8 (nb rfl) fun c5g b8F w4 a8a a0F a8V => ?_
  obtain ⟨b2q, h⟩ := h
  refine c7I (s := S2) (xs := r6) (a0F.bring 2) a2S (a8a.srcO ((a0F.bring 2).bring 1)) b2q fun a7v b0P z2 a9Q a7w c5h => ?_
  refine a8 (s9 _ _ _ _ _ _) ?_
  exact hn2 _ _ _ (hm2 _ _ h).2 ⟨((r6 ++ [L0]), (IntKind.wrap .i64 (p6 + 1))), Z9, a7v, b0P, rfl, rfl, a9Q, ((a7w.bring 1).drop.bring 1).drop, (hm2 _ _ h).1⟩
 ·replace h := h.2 a3v
  exact hx1 _ _ (hj1 r6 S2 Fs5l2 H _ a2S I h)
theorem a0v (x0 : Sl) {H : Hp} {K : Sl → Hp → Prop} (h : w8 x0 H K) : w7 x0 H K := by
 intro w I
 refine g7e ?_
 refine a0t x0 I (fun r0 H' w' I' hk => ⟨H', _, I', r0, rfl, rfl, hk⟩) h
def a2e (x0 : Int) (H : Hp) (K : a7 → Hp → Prop) : Prop :=
 (x0 < 0 →
 ∀ (s_7 : Sl) (Z9 : Hp), Hle H Z9 → SlH Z9 4 b8 s_7 [(a7.mk 1 (IntKind.wrap .i64 (0 - x0)) ⟨#[]⟩ (Sl.mk none 0 0))] → s_7.n ≤ s_7.c →
 K (a7.mk 5 0 ⟨#[]⟩ s_7) Z9) ∧
 (¬ (x0 < 0) →
 K (a7.mk 1 x0 ⟨#[]⟩ (Sl.mk none 0 0)) H)
theorem b3X (x0 : Int) {w0 w : World} {ps0 : Nat → Prop} {H0 H : Hp} {K : a7 → Hp → Prop} {R : Value → World → Prop} {E : Pan} (I : Inv w0 ps0 H0 H [] w) (hR : ∀ (r0 : a7) (H' : Hp) (w' : World) (_ : Inv w0 ps0 H0 H' [] w') (_ : K r0 H'), R (Value.agg (b8 r0).toArray) w') (h : a2e x0 H K) : F63 (vi x0) w R E := by
 unfold a2e at h
 unfold F63
 refine u2 I Tryd.zeroValue24 (cs := [(vi 0), (vi 0), (Value.string ⟨#[]⟩), (Value.slice none 0 0)]) rfl fun g_2 w_3 I_4 k_5 => ?_
 refine a8 (o3 _ _ _ _ _ _) ?_
 refine g8 (fun a8c => ?_) (fun a8c => ?_)
 ·replace h := h.1 a8c
  refine a8 (b5k _ _) ?_
  refine a8 (a5K _ _) ?_
  refine a5R (e := 24) (c := b8) (xs := [(a7.mk 1 (IntKind.wrap .i64 (0 - x0)) ⟨#[]⟩ (Sl.mk none 0 0))]) I_4 (b5m _ _ _ _ _ _) rfl rfl P7 P8 (nb rfl) fun s_7 F_8 w_9 a6J a3w b4Q => ?_
  refine a8 (a7N _ _ _ _) ?_
  refine k3 (a3w.bring 1) Tryd.sizeOf24 (vs := [(vi 5), (vi 0), (Value.string ⟨#[]⟩), (vs s_7)]) (cs' := [(vi 5), (vi 0), (Value.string ⟨#[]⟩), (vs s_7)]) rfl rfl (nb rfl) rfl rfl fun a2w J7 a2T => ?_
  refine t6 Tryd.isAgg24 Tryd.sizeOf24 rfl (J7.at1 (o := 0) (vs := [(vi 5), (vi 0), (Value.string ⟨#[]⟩), (vs s_7)]) (nb rfl) rfl) ?_
  obtain ⟨Z9, b4N, c2z, a1M, h5F⟩ := Inv.freezeC (J7.bring 1) a6J (by decide)
  replace h := h s_7 Z9 c2z a1M h5F
  exact hR (a7.mk 5 0 ⟨#[]⟩ s_7) Z9 _ b4N.drop h
 ·replace h := h.2 a8c
  refine a8 (a5K _ _) ?_
  refine k3 I_4 Tryd.sizeOf24 (vs := [(vi 1), (vi x0), (Value.string ⟨#[]⟩), (Value.slice none 0 0)]) (cs' := [(vi 1), (vi x0), (Value.string ⟨#[]⟩), (Value.slice none 0 0)]) rfl rfl (nb rfl) rfl rfl fun a2J c4U f9L => ?_
  refine t6 Tryd.isAgg24 Tryd.sizeOf24 rfl (c4U.at1 (o := 0) (vs := [(vi 1), (vi x0), (Value.string ⟨#[]⟩), (Value.slice none 0 0)]) (nb rfl) rfl) ?_
  exact hR (a7.mk 1 x0 ⟨#[]⟩ (Sl.mk none 0 0)) H _ c4U.drop h
theorem b5c (x0 : Int) {H : Hp} {K : a7 → Hp → Prop} (h : a2e x0 H K) : a1V x0 H K := by
 intro w I
 refine g7l ?_
 refine b3X x0 I (fun r0 H' w' I' hk => ⟨H', _, I', r0, rfl, rfl, hk⟩) h
def w6 (a6M : Int) (a1Z : Int) (cr_6j2 : a3h) (cr_1j2 : a7) (H : Hp) (K : Int → Bool → Hp → Prop) : Prop :=
 K a6M ((decide (a1Z = 0)) && (!decide (a6M = (-9223372036854775808)))) H
def V3 (cr_6j1 : a3h) (cr_1j1 : a7) (H : Hp) (K : Int → Bool → Hp → Prop) : Prop :=
 (cr_1j1.b9 = 5 →
 (0 : Int) ≤ 0 ∧ (0 : Int) < 2 ∧
 a5l (([cr_6j1.f0, cr_6j1.f1] : List Int).getD (0 : Int).toNat 0) H (fun (B7 : Int) (a9k : Int) (a3y : Hp) =>
 w6 B7 a9k cr_6j1 cr_1j1 a3y K)) ∧
 (¬ (cr_1j1.b9 = 5) →
 (cr_1j1.b9 = 6 →
 (0 : Int) ≤ 0 ∧ (0 : Int) < 2 ∧
 (0 : Int) ≤ 1 ∧ (1 : Int) < 2 ∧
 a5m (([cr_6j1.f0, cr_6j1.f1] : List Int).getD (0 : Int).toNat 0) (([cr_6j1.f0, cr_6j1.f1] : List Int).getD (1 : Int).toNat 0) H (fun (b4i : Int) (c7b : Int) (c1W : Hp) =>
 w6 b4i c7b cr_6j1 cr_1j1 c1W K)) ∧
 (¬ (cr_1j1.b9 = 6) →
 (cr_1j1.b9 = 7 →
 (0 : Int) ≤ 0 ∧ (0 : Int) < 2 ∧
 (0 : Int) ≤ 1 ∧ (1 : Int) < 2 ∧
 a3p (([cr_6j1.f0, cr_6j1.f1] : List Int).getD (0 : Int).toNat 0) (([cr_6j1.f0, cr_6j1.f1] : List Int).getD (1 : Int).toNat 0) H (fun (a2Q : Int) (c7c : Int) (a7Y : Hp) =>
 w6 a2Q c7c cr_6j1 cr_1j1 a7Y K)) ∧
 (¬ (cr_1j1.b9 = 7) →
 (cr_1j1.b9 = 8 →
 (0 : Int) ≤ 0 ∧ (0 : Int) < 2 ∧
 (0 : Int) ≤ 1 ∧ (1 : Int) < 2 ∧
 a5n (([cr_6j1.f0, cr_6j1.f1] : List Int).getD (0 : Int).toNat 0) (([cr_6j1.f0, cr_6j1.f1] : List Int).getD (1 : Int).toNat 0) H (fun (c7d : Int) (c7e : Int) (e5k : Hp) =>
 w6 c7d c7e cr_6j1 cr_1j1 e5k K)) ∧
 (¬ (cr_1j1.b9 = 8) →
 (cr_1j1.b9 = 9 →
 (0 : Int) ≤ 0 ∧ (0 : Int) < 2 ∧
 (0 : Int) ≤ 1 ∧ (1 : Int) < 2 ∧
 a5o (([cr_6j1.f0, cr_6j1.f1] : List Int).getD (0 : Int).toNat 0) (([cr_6j1.f0, cr_6j1.f1] : List Int).getD (1 : Int).toNat 0) H (fun (c3V : Int) (c3W : Int) (e5l : Hp) =>
 w6 c3V c3W cr_6j1 cr_1j1 e5l K)) ∧
 (¬ (cr_1j1.b9 = 9) →
 (cr_1j1.b9 = 10 →
 (0 : Int) ≤ 0 ∧ (0 : Int) < 2 ∧
 (0 : Int) ≤ 1 ∧ (1 : Int) < 2 ∧
 a5p (([cr_6j1.f0, cr_6j1.f1] : List Int).getD (0 : Int).toNat 0) (([cr_6j1.f0, cr_6j1.f1] : List Int).getD (1 : Int).toNat 0) H (fun (c3X : Int) (c3Y : Int) (d6G : Hp) =>
 w6 c3X c3Y cr_6j1 cr_1j1 d6G K)) ∧
 (¬ (cr_1j1.b9 = 10) →
 w6 0 2 cr_6j1 cr_1j1 H K))))))
def V4 (e6x : Sl) (e6y : Int) (cr_1l3 : a7) (a0T : Int) (cr_6l3 : a3h) (H : Hp) (n3 : (Int × a3h) → Hp → Prop) (K : Int → Bool → Hp → Prop) : Prop :=
 (a0T < e6y →
 (0 : Int) ≤ a0T ∧ (a0T : Int) < e6x.n ∧ ∃ b4o : a7, EltH H e6x a0T 4 (b8 b4o) ∧
 H7 b4o H (fun (a9l : Int) (c3Z : Bool) (c4a : Hp) =>
 ((!c3Z) = true →
 K 0 false c4a) ∧
 ((!c3Z) = false →
 (0 : Int) ≤ a0T ∧ (a0T : Int) < 2 ∧
 n3 ((IntKind.wrap .i64 (a0T + 1)), (a3h.mk (if a0T = 0 then a9l else cr_6l3.f0) (if a0T = 1 then a9l else cr_6l3.f1))) c4a))) ∧
 (¬ (a0T < e6y) →
 V3 cr_6l3 cr_1l3 H K)
def a0k (x0 : a7) (H : Hp) (K : Int → Bool → Hp → Prop) : Prop :=
 TL ((0, (a3h.mk 0 0)) : Int × a3h) H fun (s : Int × a3h) H n3 => V4 x0.d8 (x0.d8.n : Int) x0 s.1 s.2 H n3 K
theorem b0U (x0 : a7) {w0 w : World} {ps0 : Nat → Prop} {H0 H : Hp} {K : Int → Bool → Hp → Prop} {R : Value → World → Prop} {E : Pan} (I : Inv w0 ps0 H0 H [] w) (hR : ∀ (r0 : Int) (r1 : Bool) (H' : Hp) (w' : World) (_ : Inv w0 ps0 H0 H' [] w') (_ : K r0 r1 H'), R (Value.tuple #[(vi r0), (Value.bool r1)]) w') (h : a0k x0 H K) : F64 (Value.agg (b8 x0).toArray) w R E := by
 unfold a0k at h
 unfold F64
 refine F7 I (cs := (b8 x0)) rfl fun g_2 w_3 I_4 k_5 => ?_
 refine u2 I_4 Tryd.zeroValue164 (cs := [(vi 0), (vi 0)]) rfl fun g_7 w_8 I_9 a6F => ?_
 have hj1 : ∀ (cr_6j1 : a3h) (H : Hp) (w : World) (_ : Inv w0 ps0 H0 H [bx g_7 164 [(vi cr_6j1.f0), (vi cr_6j1.f1)], bx g_2 24 (b8 x0)] w) (_ : V3 cr_6j1 x0 H K), d1B (Value.pointer (some ⟨g_2, 0, none⟩)) (Value.pointer (some ⟨g_7, 0, none⟩)) w R E := by
  intro cr_6j1 H w I h
  unfold d1B
  intro _
  unfold V3 at h
  have hj2 : ∀ (a6M : Int) (a1Z : Int) (H : Hp) (w : World) (_ : Inv w0 ps0 H0 H [bx g_7 164 [(vi cr_6j1.f0), (vi cr_6j1.f1)], bx g_2 24 (b8 x0)] w) (_ : w6 a6M a1Z cr_6j1 x0 H K), d1A (vi a6M) (vi a1Z) w R E := by
   intro a6M a1Z H w I h
   unfold d1A
   intro _
   unfold w6 at h
   refine a8 (f4 _ _ _ _ _ _) ?_
   try simp only [m4]
   refine a8 (Pu.g fun hb => by have b6 := hb; first | exact (o4 _ _ _ _ _ _) | (simp only [b7 b6]; exact (o4 _ _ _ _ _ _)) | (simp only [d7 b6, b7 b6, b7 hb, f8 b6, f9]; exact (o4 _ _ _ _ _ _))) ?_
   refine a8 (k9 _ _) ?_
   exact hR a6M ((decide (a1Z = 0)) && (!decide (a6M = (-9223372036854775808)))) H _ I.drop.drop h
  refine s8 fun j2 hx2 => ?_
  refine a8 m9 ?_
  refine d9 (ld1 Tryd.isAgg3 ((I.bring 1).at1 (o := 0) (vs := [(vi x0.b9)]) (nb rfl) rfl)) ?_
  refine a8 (f4 _ _ _ _ _ _) ?_
  refine g8 (fun d6H => ?_) (fun d6H => ?_)
  ·replace h := h.1 d6H
   obtain ⟨c5Q, a5V, h⟩ := h
   refine a8 (Y0 _ _ c5Q a5V) ?_
   refine d9 (ld1 (v := (vi (([cr_6j1.f0, cr_6j1.f1] : List Int).getD (0 : Int).toNat 0))) Tryd.isAgg2 (Inv.b1U (n := 2) (k := .i64) (l := [cr_6j1.f0, cr_6j1.f1]) I rfl rfl c5Q a5V)) ?_
   refine f5 (cap := []) (fun args w => Tryd.call101 args w) ?_
   refine i6 (Fi := []) (Fr := [bx g_7 164 [(vi cr_6j1.f0), (vi cr_6j1.f1)], bx g_2 24 (b8 x0)]) I (h) (fun e2i a3y e2j D9 b4U e2k e2l c1N => ?_) (fun _ _ _ _ _ q => q.elim)
   obtain ⟨B7, a9k, rfl, rfl, h⟩ := c1N
   refine a8 (i4 _ _ (vi B7) rfl) ?_
   refine a8 (i4 _ _ (vi a9k) rfl) ?_
   exact hx2 _ _ (hj2 B7 a9k a3y _ ((b4U.bring 1).bring 1) h)
  ·replace h := h.2 d6H
   refine a8 (f4 _ _ _ _ _ _) ?_
   refine g8 (fun b7x => ?_) (fun b7x => ?_)
   ·replace h := h.1 b7x
    obtain ⟨b8J, c5k, h⟩ := h
    refine a8 (Y0 _ _ b8J c5k) ?_
    refine d9 (ld1 (v := (vi (([cr_6j1.f0, cr_6j1.f1] : List Int).getD (0 : Int).toNat 0))) Tryd.isAgg2 (Inv.b1U (n := 2) (k := .i64) (l := [cr_6j1.f0, cr_6j1.f1]) I rfl rfl b8J c5k)) ?_
    obtain ⟨b4R, b8S, h⟩ := h
    refine a8 (Y0 _ _ b4R b8S) ?_
    refine d9 (ld1 (v := (vi (([cr_6j1.f0, cr_6j1.f1] : List Int).getD (1 : Int).toNat 0))) Tryd.isAgg2 (Inv.b1U (n := 2) (k := .i64) (l := [cr_6j1.f0, cr_6j1.f1]) I rfl rfl b4R b8S)) ?_
    refine f5 (cap := []) (fun args w => Tryd.call26 args w) ?_
    refine i6 (Fi := []) (Fr := [bx g_7 164 [(vi cr_6j1.f0), (vi cr_6j1.f1)], bx g_2 24 (b8 x0)]) I (h) (fun h4G c1W h4H c1X b2O c9u c1Y e2I => ?_) (fun _ _ _ _ _ q => q.elim)
    obtain ⟨b4i, c7b, rfl, rfl, h⟩ := e2I
    refine a8 (i4 _ _ (vi b4i) rfl) ?_
    refine a8 (i4 _ _ (vi c7b) rfl) ?_
    exact hx2 _ _ (hj2 b4i c7b c1W _ ((b2O.bring 1).bring 1) h)
   ·replace h := h.2 b7x
    refine a8 (f4 _ _ _ _ _ _) ?_
    refine g8 (fun b7y => ?_) (fun b7y => ?_)
    ·replace h := h.1 b7y
     obtain ⟨d4N, g8n, h⟩ := h
     refine a8 (Y0 _ _ d4N g8n) ?_
     refine d9 (ld1 (v := (vi (([cr_6j1.f0, cr_6j1.f1] : List Int).getD (0 : Int).toNat 0))) Tryd.isAgg2 (Inv.b1U (n := 2) (k := .i64) (l := [cr_6j1.f0, cr_6j1.f1]) I rfl rfl d4N g8n)) ?_
     obtain ⟨g8o, d6I, h⟩ := h
     refine a8 (Y0 _ _ g8o d6I) ?_
     refine d9 (ld1 (v := (vi (([cr_6j1.f0, cr_6j1.f1] : List Int).getD (1 : Int).toNat 0))) Tryd.isAgg2 (Inv.b1U (n := 2) (k := .i64) (l := [cr_6j1.f0, cr_6j1.f1]) I rfl rfl g8o d6I)) ?_
     refine f5 (cap := []) (fun args w => Tryd.call27 args w) ?_
     refine i6 (Fi := []) (Fr := [bx g_7 164 [(vi cr_6j1.f0), (vi cr_6j1.f1)], bx g_2 24 (b8 x0)]) I (h) (fun c4Z a7Y e1u U1 b8D e1v e1w c1q => ?_) (fun _ _ _ _ _ q => q.elim)
     obtain ⟨a2Q, c7c, rfl, rfl, h⟩ := c1q
     refine a8 (i4 _ _ (vi a2Q) rfl) ?_
     refine a8 (i4 _ _ (vi c7c) rfl) ?_
     exact hx2 _ _ (hj2 a2Q c7c a7Y _ ((b8D.bring 1).bring 1) h)
    ·replace h := h.2 b7y
     refine a8 (f4 _ _ _ _ _ _) ?_
     refine g8 (fun d6J => ?_) (fun d6J => ?_)
     ·replace h := h.1 d6J
      obtain ⟨g8p, g8q, h⟩ := h
      refine a8 (Y0 _ _ g8p g8q) ?_
      refine d9 (ld1 (v := (vi (([cr_6j1.f0, cr_6j1.f1] : List Int).getD (0 : Int).toNat 0))) Tryd.isAgg2 (Inv.b1U (n := 2) (k := .i64) (l := [cr_6j1.f0, cr_6j1.f1]) I rfl rfl g8p g8q)) ?_
      obtain ⟨g8r, g8s, h⟩ := h
      refine a8 (Y0 _ _ g8r g8s) ?_
      refine d9 (ld1 (v := (vi (([cr_6j1.f0, cr_6j1.f1] : List Int).getD (1 : Int).toNat 0))) Tryd.isAgg2 (Inv.b1U (n := 2) (k := .i64) (l := [cr_6j1.f0, cr_6j1.f1]) I rfl rfl g8r g8s)) ?_
      refine f5 (cap := []) (fun args w => Tryd.call28 args w) ?_
      refine i6 (Fi := []) (Fr := [bx g_7 164 [(vi cr_6j1.f0), (vi cr_6j1.f1)], bx g_2 24 (b8 x0)]) I (h) (fun i1O e5k i1P g6r h5G i1Q i1R h5H => ?_) (fun _ _ _ _ _ q => q.elim)
      obtain ⟨c7d, c7e, rfl, rfl, h⟩ := h5H
      refine a8 (i4 _ _ (vi c7d) rfl) ?_
      refine a8 (i4 _ _ (vi c7e) rfl) ?_
      exact hx2 _ _ (hj2 c7d c7e e5k _ ((h5G.bring 1).bring 1) h)
     ·replace h := h.2 d6J
      refine a8 (f4 _ _ _ _ _ _) ?_
      refine g8 (fun b7l => ?_) (fun b7l => ?_)
      ·replace h := h.1 b7l
       obtain ⟨d1F, c5R, h⟩ := h
       refine a8 (Y0 _ _ d1F c5R) ?_
       refine d9 (ld1 (v := (vi (([cr_6j1.f0, cr_6j1.f1] : List Int).getD (0 : Int).toNat 0))) Tryd.isAgg2 (Inv.b1U (n := 2) (k := .i64) (l := [cr_6j1.f0, cr_6j1.f1]) I rfl rfl d1F c5R)) ?_
       obtain ⟨c1w, c5e, h⟩ := h
       refine a8 (Y0 _ _ c1w c5e) ?_
       refine d9 (ld1 (v := (vi (([cr_6j1.f0, cr_6j1.f1] : List Int).getD (1 : Int).toNat 0))) Tryd.isAgg2 (Inv.b1U (n := 2) (k := .i64) (l := [cr_6j1.f0, cr_6j1.f1]) I rfl rfl c1w c5e)) ?_
       refine f5 (cap := []) (fun args w => Tryd.call29 args w) ?_
       refine i6 (Fi := []) (Fr := [bx g_7 164 [(vi cr_6j1.f0), (vi cr_6j1.f1)], bx g_2 24 (b8 x0)]) I (h) (fun i1S e5l h6y a3l h5I h6z i1T h0V => ?_) (fun _ _ _ _ _ q => q.elim)
       obtain ⟨c3V, c3W, rfl, rfl, h⟩ := h0V
       refine a8 (i4 _ _ (vi c3V) rfl) ?_
       refine a8 (i4 _ _ (vi c3W) rfl) ?_
       exact hx2 _ _ (hj2 c3V c3W e5l _ ((h5I.bring 1).bring 1) h)
      ·replace h := h.2 b7l
       refine a8 (f4 _ _ _ _ _ _) ?_
       refine g8 (fun b7j => ?_) (fun b7j => ?_)
       ·replace h := h.1 b7j
        obtain ⟨c7f, c0e, h⟩ := h
        refine a8 (Y0 _ _ c7f c0e) ?_
        refine d9 (ld1 (v := (vi (([cr_6j1.f0, cr_6j1.f1] : List Int).getD (0 : Int).toNat 0))) Tryd.isAgg2 (Inv.b1U (n := 2) (k := .i64) (l := [cr_6j1.f0, cr_6j1.f1]) I rfl rfl c7f c0e)) ?_
        obtain ⟨e6z, c4b, h⟩ := h
        refine a8 (Y0 _ _ e6z c4b) ?_
        refine d9 (ld1 (v := (vi (([cr_6j1.f0, cr_6j1.f1] : List Int).getD (1 : Int).toNat 0))) Tryd.isAgg2 (Inv.b1U (n := 2) (k := .i64) (l := [cr_6j1.f0, cr_6j1.f1]) I rfl rfl e6z c4b)) ?_
        refine f5 (cap := []) (fun args w => Tryd.call30 args w) ?_
        refine i6 (Fi := []) (Fr := [bx g_7 164 [(vi cr_6j1.f0), (vi cr_6j1.f1)], bx g_2 24 (b8 x0)]) I (h) (fun h6A d6G h6B a9j h0W h6C h6D h0X => ?_) (fun _ _ _ _ _ q => q.elim)
        obtain ⟨c3X, c3Y, rfl, rfl, h⟩ := h0X
        refine a8 (i4 _ _ (vi c3X) rfl) ?_
        refine a8 (i4 _ _ (vi c3Y) rfl) ?_
        exact hx2 _ _ (hj2 c3X c3Y d6G _ ((h0W.bring 1).bring 1) h)
       ·replace h := h.2 b7j
        exact hx2 _ _ (hj2 0 2 H _ ((I.bring 1).bring 1) h)
 refine s8 fun j1 hx1 => ?_
 refine a8 i8 ?_
 refine d9 (ld1 Tryd.isAgg22 ((I_9.bring 1).at1 (o := 3) (vs := [(vs x0.d8)]) (nb rfl) rfl)) ?_
 refine a8 (q6 _ _ _) ?_
 obtain ⟨d6K, c4c, h0Y, h0Z⟩ := h
 refine I0 (J := fun n l w => ∃ (s : Int × a3h) (H : Hp) , n = c4c s ∧ l = (match s with | (a0T, cr_6l3) => [(vi a0T)]) ∧ (match s with | (a0T, cr_6l3) => Inv w0 ps0 H0 H [bx g_7 164 [(vi cr_6l3.f0), (vi cr_6l3.f1)], bx g_2 24 (b8 x0)] w) ∧ d6K s H) ⟨_, (0, (a3h.mk 0 0)), H, rfl, rfl, ((I_9.bring 1).bring 1), h0Y⟩ ?_
 rintro h6E τ_168 w next3 ⟨⟨a0T, cr_6l3⟩, H, rfl, d6L, I, h1a⟩ hn3
 dsimp only at d6L I
 simp only [List.map_cons, List.map_nil, List.cons.injEq, and_true] at d6L
 have e14 := d6L
 simp only [e14]
 obtain ⟨n3, hm3, h⟩ : ∃ n3 : (Int × a3h) → Hp → Prop, (∀ s' H', n3 s' H' → d6K s' H' ∧ c4c s' < c4c (a0T, cr_6l3)) ∧ V4 x0.d8 (x0.d8.n : Int) x0 a0T cr_6l3 H n3 K := ⟨_, fun _ _ h => h, h0Z (a0T, cr_6l3) H (fun s' H' => d6K s' H' ∧ c4c s' < c4c (a0T, cr_6l3)) h1a (fun _ _ a b => ⟨a, b⟩)⟩
 unfold e0H
 unfold V4 at h
 refine a8 (o3 _ _ _ _ _ _) ?_
 refine g8 (fun d6M => ?_) (fun d6M => ?_)
 ·replace h := h.1 d6M
  obtain ⟨h1b, h1c, b4o, d6N, h⟩ := h
  obtain ⟨h6F, h6G, h1d, d6N⟩ := d6N
  refine a8 (m7 h1d _ _ _ _ h1b h1c) ?_
  refine d9 (ldA (vs := (b8 b4o)) Tryd.isAgg24 Tryd.sizeOf24 rfl (I.atH d6N)) ?_
  refine u2 I Tryd.zeroValue24 (cs := [(vi 0), (vi 0), (Value.string ⟨#[]⟩), (Value.slice none 0 0)]) rfl fun h1e h6H h1f h6I => ?_
  refine k3 h1f Tryd.sizeOf24 (vs := (b8 b4o)) (cs' := (b8 b4o)) rfl rfl (nb rfl) rfl rfl fun a3E a4t d6O => ?_
  refine d9 (ldA Tryd.isAgg24 Tryd.sizeOf24 rfl (a4t.at1 (o := 0) (vs := (b8 b4o)) (nb rfl) rfl)) ?_
  refine f5 (cap := []) (fun args w => Tryd.call62 args w) ?_
  refine i6 (Fi := []) (Fr := [bx h1e 24 (b8 b4o), bx g_7 164 [(vi cr_6l3.f0), (vi cr_6l3.f1)], bx g_2 24 (b8 x0)]) a4t (h) (fun h6J c4a h6K b6r e6A h6L h6M h1g => ?_) (fun _ _ _ _ _ q => q.elim)
  obtain ⟨a9l, c3Z, rfl, rfl, h⟩ := h1g
  refine a8 (i4 _ _ (vi a9l) rfl) ?_
  refine a8 (i4 _ _ (Value.bool c3Z) rfl) ?_
  refine a8 (C4 _) ?_
  refine j9 (fun d6P => ?_) (fun d6P => ?_)
  ·replace h := h.1 d6P
   exact hR 0 false c4a _ e6A.drop.drop.drop h
  ·replace h := h.2 d6P
   obtain ⟨c7g, c0f, h⟩ := h
   refine a8 (Y0 _ _ c7g c0f) ?_
   refine k3 (e6A.bring 1) Tryd.sizeOf2 (vs := [(vi a9l)]) (cs' := [(vi (if a0T = 0 then a9l else cr_6l3.f0)), (vi (if a0T = 1 then a9l else cr_6l3.f1))]) rfl rfl (by simp only [List.length_cons, List.length_nil]; omega) rfl (e1d c7g c0f) fun c3i h1h h6N => ?_
   refine a8 (s9 _ _ _ _ _ _) ?_
   exact hn3 _ _ _ (hm3 _ _ h).2 ⟨((IntKind.wrap .i64 (a0T + 1)), (a3h.mk (if a0T = 0 then a9l else cr_6l3.f0) (if a0T = 1 then a9l else cr_6l3.f1))), c4a, rfl, rfl, (((h1h.bring 1).drop.bring 1).bring 1), (hm3 _ _ h).1⟩
 ·replace h := h.2 d6M
  exact hx1 _ _ (hj1 cr_6l3 H _ ((I.bring 1).bring 1) h)
theorem b1B (x0 : a7) {H : Hp} {K : Int → Bool → Hp → Prop} (h : a0k x0 H K) : a2M x0 H K := by
 intro w I
 refine g7L ?_
 refine b0U x0 I (fun r0 r1 H' w' I' hk => ⟨H', _, I', r0, r1, rfl, rfl, hk⟩) h
def N2 (cr_1j1 : a7) (cr_6j1 : a7) (H : Hp) (K : a7 → Hp → Prop) : Prop :=
 K cr_1j1 H
def U2 (b9e : Int) (cr_1j3 : a7) (cr_6j3 : a7) (H : Hp) (K : a7 → Hp → Prop) : Prop :=
 (0 : Int) ≤ 1 ∧ (1 : Int) < cr_1j3.d8.n ∧ ∃ d6Q : a7, EltH H cr_1j3.d8 1 4 (b8 d6Q) ∧
 R6 d6Q b9e H (fun (d1G : Bool) (c5S : Hp) =>
 (d1G = true →
 (0 : Int) ≤ 0 ∧ (0 : Int) < cr_1j3.d8.n ∧ ∃ a4u : a7, EltH c5S cr_1j3.d8 0 4 (b8 a4u) ∧
 K a4u c5S) ∧
 (d1G = false →
 N2 cr_1j3 cr_6j3 c5S K))
def N3 (cr_1j2 : a7) (cr_6j2 : a7) (H : Hp) (K : a7 → Hp → Prop) : Prop :=
 (0 : Int) ≤ 1 ∧ (1 : Int) < cr_1j2.d8.n ∧ ∃ c7h : a7, EltH H cr_1j2.d8 1 4 (b8 c7h) ∧
 R6 c7h 1 H (fun (d1H : Bool) (c0g : Hp) =>
 (d1H = true →
 (0 : Int) ≤ 0 ∧ (0 : Int) < cr_1j2.d8.n ∧ ∃ b4p : a7, EltH c0g cr_1j2.d8 0 4 (b8 b4p) ∧
 K b4p c0g) ∧
 (d1H = false →
 N2 cr_1j2 cr_6j2 c0g K))
def a2q (x0 : a7) (H : Hp) (K : a7 → Hp → Prop) : Prop :=
 w7 x0.d8 H (fun (k4 : Sl) (a1P : Hp) =>
 H7 (a7.mk x0.b9 x0.g9 x0.g1 k4) a1P (fun (K8 : Int) (c7i : Bool) (a0D : Hp) =>
 (c7i = true →
 a1V K8 a0D (fun (c0h : a7) (b4M : Hp) =>
 K c0h b4M)) ∧
 (c7i = false →
 a2M (a7.mk x0.b9 x0.g9 x0.g1 k4) a0D (fun (b7z : Int) (b1C : Bool) (a7B : Hp) =>
 (b1C = true →
 a1V b7z a7B (fun (b0r : a7) (b6P : Hp) =>
 K b0r b6P)) ∧
 (b1C = false →
 (x0.b9 = 6 →
 (0 : Int) ≤ 0 ∧ (0 : Int) < k4.n ∧ ∃ d6R : a7, EltH a7B k4 0 4 (b8 d6R) ∧
 R6 d6R 0 a7B (fun (a6a : Bool) (a3Y : Hp) =>
 (a6a = true →
 (0 : Int) ≤ 1 ∧ (1 : Int) < k4.n ∧ ∃ b9p : a7, EltH a3Y k4 1 4 (b8 b9p) ∧
 K b9p a3Y) ∧
 (a6a = false →
 U2 0 (a7.mk x0.b9 x0.g9 x0.g1 k4) (a7.mk 0 0 ⟨#[]⟩ (Sl.mk none 0 0)) a3Y K))) ∧
 (¬ (x0.b9 = 6) →
 (x0.b9 = 7 →
 U2 0 (a7.mk x0.b9 x0.g9 x0.g1 k4) (a7.mk 0 0 ⟨#[]⟩ (Sl.mk none 0 0)) a7B K) ∧
 (¬ (x0.b9 = 7) →
 (x0.b9 = 8 →
 (0 : Int) ≤ 0 ∧ (0 : Int) < k4.n ∧ ∃ c7j : a7, EltH a7B k4 0 4 (b8 c7j) ∧
 R6 c7j 1 a7B (fun (b0H : Bool) (c0i : Hp) =>
 ∃ c0j : a7, (b0H = true → (0 : Int) ≤ 1 ∧ (1 : Int) < k4.n ∧ EltH c0i k4 1 4 (b8 c0j)) ∧
 TG (b0H = true) (R6 c0j 1 c0i) false c0i (fun (a9m : Bool) (a2r : Hp) =>
 ((b0H && (!a9m)) = true →
 (0 : Int) ≤ 1 ∧ (1 : Int) < k4.n ∧ ∃ a9n : a7, EltH a2r k4 1 4 (b8 a9n) ∧
 K a9n a2r) ∧
 ((b0H && (!a9m)) = false →
 N3 (a7.mk x0.b9 x0.g9 x0.g1 k4) (a7.mk 0 0 ⟨#[]⟩ (Sl.mk none 0 0)) a2r K)))) ∧
 (¬ (x0.b9 = 8) →
 (x0.b9 = 9 →
 N3 (a7.mk x0.b9 x0.g9 x0.g1 k4) (a7.mk 0 0 ⟨#[]⟩ (Sl.mk none 0 0)) a7B K) ∧
 (¬ (x0.b9 = 9) →
 N2 (a7.mk x0.b9 x0.g9 x0.g1 k4) (a7.mk 0 0 ⟨#[]⟩ (Sl.mk none 0 0)) a7B K)))))))))
theorem b5d (x0 : a7) {w0 w : World} {ps0 : Nat → Prop} {H0 H : Hp} {K : a7 → Hp → Prop} {R : Value → World → Prop} {E : Pan} (I : Inv w0 ps0 H0 H [] w) (hR : ∀ (r0 : a7) (H' : Hp) (w' : World) (_ : Inv w0 ps0 H0 H' [] w') (_ : K r0 H'), R (Value.agg (b8 r0).toArray) w') (h : a2q x0 H K) : F38 (Value.agg (b8 x0).toArray) w R E := by
 unfold a2q at h
 unfold F38
 refine F7 I (cs := (b8 x0)) rfl fun g_2 w_3 I_4 k_5 => ?_
 refine u2 I_4 Tryd.zeroValue24 (cs := [(vi 0), (vi 0), (Value.string ⟨#[]⟩), (Value.slice none 0 0)]) rfl fun g_7 w_8 I_9 a6F => ?_
 refine a8 i8 ?_
 refine d9 (ld1 Tryd.isAgg22 ((I_9.bring 1).at1 (o := 3) (vs := [(vs x0.d8)]) (nb rfl) rfl)) ?_
 refine f5 (cap := []) (fun args w => Tryd.call61 args w) ?_
 refine i6 (Fi := []) (Fr := [bx g_7 24 [(vi 0), (vi 0), (Value.string ⟨#[]⟩), (Value.slice none 0 0)], bx g_2 24 (b8 x0)]) I_9 (h) (fun d1I a1P d1J m6 a4E c2z d1K b3v => ?_) (fun _ _ _ _ _ q => q.elim)
 obtain ⟨k4, rfl, rfl, h⟩ := b3v
 refine a8 i8 ?_
 refine k3 (a4E.bring 1) Tryd.sizeOf22 (vs := [(vs k4)]) (cs' := [(vi x0.b9), (vi x0.g9), (Value.string x0.g1), (vs k4)]) rfl rfl (nb rfl) rfl rfl fun o7 X6 a9P => ?_
 refine d9 (ldA Tryd.isAgg24 Tryd.sizeOf24 rfl (X6.at1 (o := 0) (vs := [(vi x0.b9), (vi x0.g9), (Value.string x0.g1), (vs k4)]) (nb rfl) rfl)) ?_
 refine f5 (cap := []) (fun args w => Tryd.call62 args w) ?_
 refine i6 (Fi := []) (Fr := [bx g_2 24 [(vi x0.b9), (vi x0.g9), (Value.string x0.g1), (vs k4)], bx g_7 24 [(vi 0), (vi 0), (Value.string ⟨#[]⟩), (Value.slice none 0 0)]]) X6 (h) (fun c9a a0D c5b q8 a2P c9b c4V b2m => ?_) (fun _ _ _ _ _ q => q.elim)
 obtain ⟨K8, c7i, rfl, rfl, h⟩ := b2m
 refine a8 (i4 _ _ (vi K8) rfl) ?_
 refine a8 (i4 _ _ (Value.bool c7i) rfl) ?_
 refine j9 (fun d6S => ?_) (fun d6S => ?_)
 ·replace h := h.1 d6S
  refine f5 (cap := []) (fun args w => Tryd.call63 args w) ?_
  refine i6 (Fi := []) (Fr := [bx g_2 24 [(vi x0.b9), (vi x0.g9), (Value.string x0.g1), (vs k4)], bx g_7 24 [(vi 0), (vi 0), (Value.string ⟨#[]⟩), (Value.slice none 0 0)]]) a2P (h) (fun i1U b4M i1V c2w e1O i1W i1X h5J => ?_) (fun _ _ _ _ _ q => q.elim)
  obtain ⟨c0h, rfl, rfl, h⟩ := h5J
  refine k3 (e1O.bring 1) Tryd.sizeOf24 (vs := (b8 c0h)) (cs' := (b8 c0h)) rfl rfl (nb rfl) rfl rfl fun b2f c5J g2H => ?_
  refine t6 Tryd.isAgg24 Tryd.sizeOf24 rfl (c5J.at1 (o := 0) (vs := (b8 c0h)) (nb rfl) rfl) ?_
  exact hR c0h b4M _ c5J.drop.drop h
 ·replace h := h.2 d6S
  refine d9 (ldA Tryd.isAgg24 Tryd.sizeOf24 rfl (a2P.at1 (o := 0) (vs := [(vi x0.b9), (vi x0.g9), (Value.string x0.g1), (vs k4)]) (nb rfl) rfl)) ?_
  refine f5 (cap := []) (fun args w => Tryd.call64 args w) ?_
  refine i6 (Fi := []) (Fr := [bx g_2 24 [(vi x0.b9), (vi x0.g9), (Value.string x0.g1), (vs k4)], bx g_7 24 [(vi 0), (vi 0), (Value.string ⟨#[]⟩), (Value.slice none 0 0)]]) a2P (h) (fun h5K a7B h5L b6n a8q a4C h5M e5m => ?_) (fun _ _ _ _ _ q => q.elim)
  obtain ⟨b7z, b1C, rfl, rfl, h⟩ := e5m
  refine a8 (i4 _ _ (vi b7z) rfl) ?_
  refine a8 (i4 _ _ (Value.bool b1C) rfl) ?_
  refine j9 (fun d6T => ?_) (fun d6T => ?_)
  ·replace h := h.1 d6T
   refine f5 (cap := []) (fun args w => Tryd.call63 args w) ?_
   refine i6 (Fi := []) (Fr := [bx g_2 24 [(vi x0.b9), (vi x0.g9), (Value.string x0.g1), (vs k4)], bx g_7 24 [(vi 0), (vi 0), (Value.string ⟨#[]⟩), (Value.slice none 0 0)]]) a8q (h) (fun h3W b6P h3X I7 b8K h3Y f9Q e2a => ?_) (fun _ _ _ _ _ q => q.elim)
   obtain ⟨b0r, rfl, rfl, h⟩ := e2a
   refine k3 (b8K.bring 1) Tryd.sizeOf24 (vs := (b8 b0r)) (cs' := (b8 b0r)) rfl rfl (nb rfl) rfl rfl fun L2 b8O c5p => ?_
   refine t6 Tryd.isAgg24 Tryd.sizeOf24 rfl (b8O.at1 (o := 0) (vs := (b8 b0r)) (nb rfl) rfl) ?_
   exact hR b0r b6P _ b8O.drop.drop h
  ·replace h := h.2 d6T
   have hj1 : ∀ (H : Hp) (w : World) (_ : Inv w0 ps0 H0 H [bx g_2 24 [(vi (a7.mk x0.b9 x0.g9 x0.g1 k4).b9), (vi (a7.mk x0.b9 x0.g9 x0.g1 k4).g9), (Value.string (a7.mk x0.b9 x0.g9 x0.g1 k4).g1), (Value.slice (a7.mk x0.b9 x0.g9 x0.g1 k4).d8.a (a7.mk x0.b9 x0.g9 x0.g1 k4).d8.n (a7.mk x0.b9 x0.g9 x0.g1 k4).d8.c)], bx g_7 24 [(vi (a7.mk 0 0 ⟨#[]⟩ (Sl.mk none 0 0)).b9), (vi (a7.mk 0 0 ⟨#[]⟩ (Sl.mk none 0 0)).g9), (Value.string (a7.mk 0 0 ⟨#[]⟩ (Sl.mk none 0 0)).g1), (Value.slice (a7.mk 0 0 ⟨#[]⟩ (Sl.mk none 0 0)).d8.a (a7.mk 0 0 ⟨#[]⟩ (Sl.mk none 0 0)).d8.n (a7.mk 0 0 ⟨#[]⟩ (Sl.mk none 0 0)).d8.c)]] w) (_ : N2 (a7.mk x0.b9 x0.g9 x0.g1 k4) (a7.mk 0 0 ⟨#[]⟩ (Sl.mk none 0 0)) H K), d1f (Value.pointer (some ⟨g_2, 0, none⟩)) (Value.pointer (some ⟨g_7, 0, none⟩)) w R E := by
    intro H w I h
    unfold d1f
    intro _
    unfold N2 at h
    refine d9 (ldA Tryd.isAgg24 Tryd.sizeOf24 rfl (I.at1 (o := 0) (vs := [(vi (a7.mk x0.b9 x0.g9 x0.g1 k4).b9), (vi (a7.mk x0.b9 x0.g9 x0.g1 k4).g9), (Value.string (a7.mk x0.b9 x0.g9 x0.g1 k4).g1), (Value.slice (a7.mk x0.b9 x0.g9 x0.g1 k4).d8.a (a7.mk x0.b9 x0.g9 x0.g1 k4).d8.n (a7.mk x0.b9 x0.g9 x0.g1 k4).d8.c)]) (nb rfl) rfl)) ?_
    refine k3 (I.bring 1) Tryd.sizeOf24 (vs := [(vi (a7.mk x0.b9 x0.g9 x0.g1 k4).b9), (vi (a7.mk x0.b9 x0.g9 x0.g1 k4).g9), (Value.string (a7.mk x0.b9 x0.g9 x0.g1 k4).g1), (Value.slice (a7.mk x0.b9 x0.g9 x0.g1 k4).d8.a (a7.mk x0.b9 x0.g9 x0.g1 k4).d8.n (a7.mk x0.b9 x0.g9 x0.g1 k4).d8.c)]) (cs' := [(vi (a7.mk x0.b9 x0.g9 x0.g1 k4).b9), (vi (a7.mk x0.b9 x0.g9 x0.g1 k4).g9), (Value.string (a7.mk x0.b9 x0.g9 x0.g1 k4).g1), (Value.slice (a7.mk x0.b9 x0.g9 x0.g1 k4).d8.a (a7.mk x0.b9 x0.g9 x0.g1 k4).d8.n (a7.mk x0.b9 x0.g9 x0.g1 k4).d8.c)]) rfl rfl (nb rfl) rfl rfl fun b7t e6B h6O => ?_
    refine t6 Tryd.isAgg24 Tryd.sizeOf24 rfl (e6B.at1 (o := 0) (vs := [(vi (a7.mk x0.b9 x0.g9 x0.g1 k4).b9), (vi (a7.mk x0.b9 x0.g9 x0.g1 k4).g9), (Value.string (a7.mk x0.b9 x0.g9 x0.g1 k4).g1), (Value.slice (a7.mk x0.b9 x0.g9 x0.g1 k4).d8.a (a7.mk x0.b9 x0.g9 x0.g1 k4).d8.n (a7.mk x0.b9 x0.g9 x0.g1 k4).d8.c)]) (nb rfl) rfl) ?_
    exact hR (a7.mk x0.b9 x0.g9 x0.g1 k4) H _ e6B.drop.drop h
   refine s8 fun j1 hx1 => ?_
   refine a8 m9 ?_
   refine d9 (ld1 Tryd.isAgg3 (a8q.at1 (o := 0) (vs := [(vi x0.b9)]) (nb rfl) rfl)) ?_
   have hj2 : ∀ (H : Hp) (w : World) (_ : Inv w0 ps0 H0 H [bx g_2 24 [(vi (a7.mk x0.b9 x0.g9 x0.g1 k4).b9), (vi (a7.mk x0.b9 x0.g9 x0.g1 k4).g9), (Value.string (a7.mk x0.b9 x0.g9 x0.g1 k4).g1), (Value.slice (a7.mk x0.b9 x0.g9 x0.g1 k4).d8.a (a7.mk x0.b9 x0.g9 x0.g1 k4).d8.n (a7.mk x0.b9 x0.g9 x0.g1 k4).d8.c)], bx g_7 24 [(vi (a7.mk 0 0 ⟨#[]⟩ (Sl.mk none 0 0)).b9), (vi (a7.mk 0 0 ⟨#[]⟩ (Sl.mk none 0 0)).g9), (Value.string (a7.mk 0 0 ⟨#[]⟩ (Sl.mk none 0 0)).g1), (Value.slice (a7.mk 0 0 ⟨#[]⟩ (Sl.mk none 0 0)).d8.a (a7.mk 0 0 ⟨#[]⟩ (Sl.mk none 0 0)).d8.n (a7.mk 0 0 ⟨#[]⟩ (Sl.mk none 0 0)).d8.c)]] w) (_ : N3 (a7.mk x0.b9 x0.g9 x0.g1 k4) (a7.mk 0 0 ⟨#[]⟩ (Sl.mk none 0 0)) H K), d1g (Value.pointer (some ⟨g_2, 0, none⟩)) (Value.pointer (some ⟨g_7, 0, none⟩)) w j1 R E := by
    intro H w I h
    unfold d1g
    intro _
    unfold N3 at h
    refine a8 i8 ?_
    refine d9 (ld1 Tryd.isAgg22 (I.at1 (o := 3) (vs := [(Value.slice (a7.mk x0.b9 x0.g9 x0.g1 k4).d8.a (a7.mk x0.b9 x0.g9 x0.g1 k4).d8.n (a7.mk x0.b9 x0.g9 x0.g1 k4).d8.c)]) (nb rfl) rfl)) ?_
    obtain ⟨h1i, a4R, c7h, d6U, h⟩ := h
    obtain ⟨h6P, h6Q, h1j, d6U⟩ := d6U
    refine a8 (m7 h1j _ _ _ _ h1i a4R) ?_
    refine d9 (ldA (vs := (b8 c7h)) Tryd.isAgg24 Tryd.sizeOf24 rfl (I.atH d6U)) ?_
    refine f5 (cap := []) (fun args w => Tryd.call65 args w) ?_
    refine i6 (Fi := []) (Fr := [bx g_2 24 [(vi (a7.mk x0.b9 x0.g9 x0.g1 k4).b9), (vi (a7.mk x0.b9 x0.g9 x0.g1 k4).g9), (Value.string (a7.mk x0.b9 x0.g9 x0.g1 k4).g1), (Value.slice (a7.mk x0.b9 x0.g9 x0.g1 k4).d8.a (a7.mk x0.b9 x0.g9 x0.g1 k4).d8.n (a7.mk x0.b9 x0.g9 x0.g1 k4).d8.c)], bx g_7 24 [(vi (a7.mk 0 0 ⟨#[]⟩ (Sl.mk none 0 0)).b9), (vi (a7.mk 0 0 ⟨#[]⟩ (Sl.mk none 0 0)).g9), (Value.string (a7.mk 0 0 ⟨#[]⟩ (Sl.mk none 0 0)).g1), (Value.slice (a7.mk 0 0 ⟨#[]⟩ (Sl.mk none 0 0)).d8.a (a7.mk 0 0 ⟨#[]⟩ (Sl.mk none 0 0)).d8.n (a7.mk 0 0 ⟨#[]⟩ (Sl.mk none 0 0)).d8.c)]]) I (h) (fun h6R c0g h6S d6v b7A h6T h1k h1l => ?_) (fun _ _ _ _ _ q => q.elim)
    obtain ⟨d1H, rfl, rfl, h⟩ := h1l
    refine j9 (fun d6V => ?_) (fun d6V => ?_)
    ·replace h := h.1 d6V
     refine a8 i8 ?_
     refine d9 (ld1 Tryd.isAgg22 (b7A.at1 (o := 3) (vs := [(Value.slice (a7.mk x0.b9 x0.g9 x0.g1 k4).d8.a (a7.mk x0.b9 x0.g9 x0.g1 k4).d8.n (a7.mk x0.b9 x0.g9 x0.g1 k4).d8.c)]) (nb rfl) rfl)) ?_
     obtain ⟨d6W, c4d, b4p, b7B, h⟩ := h
     obtain ⟨h6U, h6V, c7k, b7B⟩ := b7B
     refine a8 (m7 c7k _ _ _ _ d6W c4d) ?_
     refine d9 (ldA (vs := (b8 b4p)) Tryd.isAgg24 Tryd.sizeOf24 rfl (b7A.atH b7B)) ?_
     refine k3 (b7A.bring 1) Tryd.sizeOf24 (vs := (b8 b4p)) (cs' := (b8 b4p)) rfl rfl (nb rfl) rfl rfl fun h6W e6C h6X => ?_
     refine t6 Tryd.isAgg24 Tryd.sizeOf24 rfl (e6C.at1 (o := 0) (vs := (b8 b4p)) (nb rfl) rfl) ?_
     exact hR b4p c0g _ e6C.drop.drop h
    ·replace h := h.2 d6V
     exact hx1 _ _ (hj1 c0g _ ((b7A.bring 1).bring 1) h)
   refine s8 fun j2 hx2 => ?_
   have hj3 : ∀ (H : Hp) (w : World) (_ : Inv w0 ps0 H0 H [bx g_2 24 [(vi (a7.mk x0.b9 x0.g9 x0.g1 k4).b9), (vi (a7.mk x0.b9 x0.g9 x0.g1 k4).g9), (Value.string (a7.mk x0.b9 x0.g9 x0.g1 k4).g1), (Value.slice (a7.mk x0.b9 x0.g9 x0.g1 k4).d8.a (a7.mk x0.b9 x0.g9 x0.g1 k4).d8.n (a7.mk x0.b9 x0.g9 x0.g1 k4).d8.c)], bx g_7 24 [(vi (a7.mk 0 0 ⟨#[]⟩ (Sl.mk none 0 0)).b9), (vi (a7.mk 0 0 ⟨#[]⟩ (Sl.mk none 0 0)).g9), (Value.string (a7.mk 0 0 ⟨#[]⟩ (Sl.mk none 0 0)).g1), (Value.slice (a7.mk 0 0 ⟨#[]⟩ (Sl.mk none 0 0)).d8.a (a7.mk 0 0 ⟨#[]⟩ (Sl.mk none 0 0)).d8.n (a7.mk 0 0 ⟨#[]⟩ (Sl.mk none 0 0)).d8.c)]] w) (_ : U2 0 (a7.mk x0.b9 x0.g9 x0.g1 k4) (a7.mk 0 0 ⟨#[]⟩ (Sl.mk none 0 0)) H K), d1i (Value.pointer (some ⟨g_2, 0, none⟩)) (Value.pointer (some ⟨g_7, 0, none⟩)) (vi 0) w j1 R E := by
    intro H w I h
    unfold d1i
    intro _
    unfold U2 at h
    refine a8 i8 ?_
    refine d9 (ld1 Tryd.isAgg22 (I.at1 (o := 3) (vs := [(Value.slice (a7.mk x0.b9 x0.g9 x0.g1 k4).d8.a (a7.mk x0.b9 x0.g9 x0.g1 k4).d8.n (a7.mk x0.b9 x0.g9 x0.g1 k4).d8.c)]) (nb rfl) rfl)) ?_
    obtain ⟨c5e, d4q, d6Q, d1L, h⟩ := h
    obtain ⟨i1Y, i1Z, c9f, d1L⟩ := d1L
    refine a8 (m7 c9f _ _ _ _ c5e d4q) ?_
    refine d9 (ldA (vs := (b8 d6Q)) Tryd.isAgg24 Tryd.sizeOf24 rfl (I.atH d1L)) ?_
    refine f5 (cap := []) (fun args w => Tryd.call65 args w) ?_
    refine i6 (Fi := []) (Fr := [bx g_2 24 [(vi (a7.mk x0.b9 x0.g9 x0.g1 k4).b9), (vi (a7.mk x0.b9 x0.g9 x0.g1 k4).g9), (Value.string (a7.mk x0.b9 x0.g9 x0.g1 k4).g1), (Value.slice (a7.mk x0.b9 x0.g9 x0.g1 k4).d8.a (a7.mk x0.b9 x0.g9 x0.g1 k4).d8.n (a7.mk x0.b9 x0.g9 x0.g1 k4).d8.c)], bx g_7 24 [(vi (a7.mk 0 0 ⟨#[]⟩ (Sl.mk none 0 0)).b9), (vi (a7.mk 0 0 ⟨#[]⟩ (Sl.mk none 0 0)).g9), (Value.string (a7.mk 0 0 ⟨#[]⟩ (Sl.mk none 0 0)).g1), (Value.slice (a7.mk 0 0 ⟨#[]⟩ (Sl.mk none 0 0)).d8.a (a7.mk 0 0 ⟨#[]⟩ (Sl.mk none 0 0)).d8.n (a7.mk 0 0 ⟨#[]⟩ (Sl.mk none 0 0)).d8.c)]]) I (h) (fun h6Y c5S h6Z c2y c7l e5S h7a h1m => ?_) (fun _ _ _ _ _ q => q.elim)
    obtain ⟨d1G, rfl, rfl, h⟩ := h1m
    refine j9 (fun b7y => ?_) (fun b7y => ?_)
    ·replace h := h.1 b7y
     refine a8 i8 ?_
     refine d9 (ld1 Tryd.isAgg22 (c7l.at1 (o := 3) (vs := [(Value.slice (a7.mk x0.b9 x0.g9 x0.g1 k4).d8.a (a7.mk x0.b9 x0.g9 x0.g1 k4).d8.n (a7.mk x0.b9 x0.g9 x0.g1 k4).d8.c)]) (nb rfl) rfl)) ?_
     obtain ⟨h1n, e6D, a4u, a3M, h⟩ := h
     obtain ⟨h1o, h1p, h1q, a3M⟩ := a3M
     refine a8 (m7 h1q _ _ _ _ h1n e6D) ?_
     refine d9 (ldA (vs := (b8 a4u)) Tryd.isAgg24 Tryd.sizeOf24 rfl (c7l.atH a3M)) ?_
     refine k3 (c7l.bring 1) Tryd.sizeOf24 (vs := (b8 a4u)) (cs' := (b8 a4u)) rfl rfl (nb rfl) rfl rfl fun a7b e6E h7b => ?_
     refine t6 Tryd.isAgg24 Tryd.sizeOf24 rfl (e6E.at1 (o := 0) (vs := (b8 a4u)) (nb rfl) rfl) ?_
     exact hR a4u c5S _ e6E.drop.drop h
    ·replace h := h.2 b7y
     exact hx1 _ _ (hj1 c5S _ ((c7l.bring 1).bring 1) h)
   refine s8 fun j3 hx3 => ?_
   refine a8 (f4 _ _ _ _ _ _) ?_
   refine g8 (fun d6X => ?_) (fun d6X => ?_)
   ·replace h := h.1 d6X
    refine a8 i8 ?_
    refine d9 (ld1 Tryd.isAgg22 (a8q.at1 (o := 3) (vs := [(vs k4)]) (nb rfl) rfl)) ?_
    obtain ⟨d6I, h5N, d6R, e5n, h⟩ := h
    obtain ⟨i2a, i2b, h5O, e5n⟩ := e5n
    refine a8 (m7 h5O _ _ _ _ d6I h5N) ?_
    refine d9 (ldA (vs := (b8 d6R)) Tryd.isAgg24 Tryd.sizeOf24 rfl (a8q.atH e5n)) ?_
    refine f5 (cap := []) (fun args w => Tryd.call65 args w) ?_
    refine i6 (Fi := []) (Fr := [bx g_2 24 [(vi x0.b9), (vi x0.g9), (Value.string x0.g1), (vs k4)], bx g_7 24 [(vi 0), (vi 0), (Value.string ⟨#[]⟩), (Value.slice none 0 0)]]) a8q (h) (fun d4A a3Y h3M c9r b6N b0M e1U e1V => ?_) (fun _ _ _ _ _ q => q.elim)
    obtain ⟨a6a, rfl, rfl, h⟩ := e1V
    refine j9 (fun b7x => ?_) (fun b7x => ?_)
    ·replace h := h.1 b7x
     refine a8 i8 ?_
     refine d9 (ld1 Tryd.isAgg22 (b6N.at1 (o := 3) (vs := [(vs k4)]) (nb rfl) rfl)) ?_
     obtain ⟨h5P, h5Q, b9p, c2l, h⟩ := h
     obtain ⟨i2c, i2d, e5o, c2l⟩ := c2l
     refine a8 (m7 e5o _ _ _ _ h5P h5Q) ?_
     refine d9 (ldA (vs := (b8 b9p)) Tryd.isAgg24 Tryd.sizeOf24 rfl (b6N.atH c2l)) ?_
     refine k3 (b6N.bring 1) Tryd.sizeOf24 (vs := (b8 b9p)) (cs' := (b8 b9p)) rfl rfl (nb rfl) rfl rfl fun Z2 g8t i2e => ?_
     refine t6 Tryd.isAgg24 Tryd.sizeOf24 rfl (g8t.at1 (o := 0) (vs := (b8 b9p)) (nb rfl) rfl) ?_
     exact hR b9p a3Y _ g8t.drop.drop h
    ·replace h := h.2 b7x
     exact hx3 _ _ (hj3 a3Y _ ((b6N.bring 1).bring 1) h)
   ·replace h := h.2 d6X
    refine a8 (f4 _ _ _ _ _ _) ?_
    refine g8 (fun d6Y => ?_) (fun d6Y => ?_)
    ·replace h := h.1 d6Y
     exact hx3 _ _ (hj3 a7B _ ((a8q.bring 1).bring 1) h)
    ·replace h := h.2 d6Y
     refine a8 (f4 _ _ _ _ _ _) ?_
     refine g8 (fun d6Z => ?_) (fun d6Z => ?_)
     ·replace h := h.1 d6Z
      refine a8 i8 ?_
      refine d9 (ld1 Tryd.isAgg22 (a8q.at1 (o := 3) (vs := [(vs k4)]) (nb rfl) rfl)) ?_
      obtain ⟨h1r, h1s, c7j, d7a, h⟩ := h
      obtain ⟨h7c, h7d, h1t, d7a⟩ := d7a
      refine a8 (m7 h1t _ _ _ _ h1r h1s) ?_
      refine d9 (ldA (vs := (b8 c7j)) Tryd.isAgg24 Tryd.sizeOf24 rfl (a8q.atH d7a)) ?_
      refine f5 (cap := []) (fun args w => Tryd.call65 args w) ?_
      refine i6 (Fi := []) (Fr := [bx g_2 24 [(vi x0.b9), (vi x0.g9), (Value.string x0.g1), (vs k4)], bx g_7 24 [(vi 0), (vi 0), (Value.string ⟨#[]⟩), (Value.slice none 0 0)]]) a8q (h) (fun h7e c0i h7f a3F b4q h7g h7h h1u => ?_) (fun _ _ _ _ _ q => q.elim)
      obtain ⟨b0H, rfl, rfl, h⟩ := h1u
      refine a8 (Pu.g fun hb => by have b6 := hb; first | exact i8 | (simp only [d7 b6, b7 b6, b7 hb, m8 b6]; exact i8) | (simp only [d7 b6, b7 b6, b7 hb, f8 b6, f9]; exact i8)) ?_
      refine d9 (Ld.g fun hb => by have b6 := hb; first | exact (ld1 Tryd.isAgg22 (b4q.at1 (o := 3) (vs := [(vs k4)]) (nb rfl) rfl)) | (simp only [b7 b6]; exact (ld1 Tryd.isAgg22 (b4q.at1 (o := 3) (vs := [(vs k4)]) (nb rfl) rfl))) | (simp only [d7 b6, b7 b6, b7 hb, f8 b6, f9]; exact (ld1 Tryd.isAgg22 (b4q.at1 (o := 3) (vs := [(vs k4)]) (nb rfl) rfl)))) ?_
      obtain ⟨c0j, a6c, h⟩ := h
      obtain ⟨h7i, h7j, a6c⟩ := b0p a6c
      refine a8 (Pu.g fun hb => by have b6 := hb; first | exact (m7 (a6c hb).2.2.1 _ _ _ _ (a6c hb).1 (a6c hb).2.1) | (simp only [b7 b6]; exact (m7 (a6c hb).2.2.1 _ _ _ _ (a6c hb).1 (a6c hb).2.1)) | (simp only [d7 b6, b7 b6, b7 hb, f8 b6, f9]; exact (m7 (a6c hb).2.2.1 _ _ _ _ (a6c hb).1 (a6c hb).2.1))) ?_
      refine d9 (Ld.g fun hb => by have b6 := hb; first | exact (ldA (vs := (b8 c0j)) Tryd.isAgg24 Tryd.sizeOf24 rfl (b4q.atH (a6c hb).2.2.2)) | (simp only [b7 b6]; exact (ldA (vs := (b8 c0j)) Tryd.isAgg24 Tryd.sizeOf24 rfl (b4q.atH (a6c hb).2.2.2))) | (simp only [d7 b6, b7 b6, b7 hb, f8 b6, f9]; exact (ldA (vs := (b8 c0j)) Tryd.isAgg24 Tryd.sizeOf24 rfl (b4q.atH (a6c hb).2.2.2)))) ?_
      refine W1 (D := fun d7b a5Y => ∃ (a9m : Bool) (a2r : Hp) , d7b = (gv b0H true (Value.bool a9m)) ∧ (Inv w0 ps0 H0 a2r [bx g_2 24 [(vi x0.b9), (vi x0.g9), (Value.string x0.g1), (vs k4)], bx g_7 24 [(vi 0), (vi 0), (Value.string ⟨#[]⟩), (Value.slice none 0 0)]] a5Y) ∧ (∀ i, i < a3F.heap.size → ¬ inF [] i → a5Y.heap[i]? = a3F.heap[i]?) ∧ Hle c0i a2r ∧ (((b0H && (!a9m)) = true →
 (0 : Int) ≤ 1 ∧ (1 : Int) < k4.n ∧ ∃ a9n : a7, EltH a2r k4 1 4 (b8 a9n) ∧
 K a9n a2r) ∧
 ((b0H && (!a9m)) = false →
 N3 (a7.mk x0.b9 x0.g9 x0.g1 k4) (a7.mk 0 0 ⟨#[]⟩ (Sl.mk none 0 0)) a2r K))) (fun c0k => ?_) (fun c0k => ?_) ?_
      ·replace h := h.1 c0k
       have b6 := c0k
       try simp only [b7 b6]
       refine f5 (cap := []) (fun args w => Tryd.call65 args w) ?_
       refine i6 (Fi := []) (Fr := [bx g_2 24 [(vi x0.b9), (vi x0.g9), (Value.string x0.g1), (vs k4)], bx g_7 24 [(vi 0), (vi 0), (Value.string ⟨#[]⟩), (Value.slice none 0 0)]]) b4q (h) (fun d7b a2r h7k a5Y c0l c7m e6F h1v => ?_) (fun _ _ _ _ _ q => q.elim)
       obtain ⟨a9m, rfl, rfl, h⟩ := h1v
       exact ⟨a9m, a2r, by first | rfl | rw [b7 c0k], c0l, e6F, c7m, h⟩
      ·exact ⟨false, c0i, by first | rfl | rw [a3k c0k], b4q, fun _ _ _ => rfl, Hle.refl _, h.2 c0k⟩
      ·clear h
       rintro d7b a5Y ⟨a9m, a2r, rfl, c0l, e6F, c7m, h⟩
       refine a8 (Pu.g fun hb => by have b6 := hb; first | exact (C4 _) | (simp only [b7 b6]; exact (C4 _)) | (simp only [d7 b6, b7 b6, b7 hb, f8 b6, f9]; exact (C4 _))) ?_
       refine a8 (k9 _ _) ?_
       refine j9 (fun d7c => ?_) (fun d7c => ?_)
       ·replace h := h.1 d7c
        refine a8 i8 ?_
        refine d9 (ld1 Tryd.isAgg22 (c0l.at1 (o := 3) (vs := [(vs k4)]) (nb rfl) rfl)) ?_
        obtain ⟨c0f, b4r, a9n, c0m, h⟩ := h
        obtain ⟨h7l, h7m, c4e, c0m⟩ := c0m
        refine a8 (m7 c4e _ _ _ _ c0f b4r) ?_
        refine d9 (ldA (vs := (b8 a9n)) Tryd.isAgg24 Tryd.sizeOf24 rfl (c0l.atH c0m)) ?_
        refine k3 (c0l.bring 1) Tryd.sizeOf24 (vs := (b8 a9n)) (cs' := (b8 a9n)) rfl rfl (nb rfl) rfl rfl fun b7u e6G h7n => ?_
        refine t6 Tryd.isAgg24 Tryd.sizeOf24 rfl (e6G.at1 (o := 0) (vs := (b8 a9n)) (nb rfl) rfl) ?_
        exact hR a9n a2r _ e6G.drop.drop h
       ·replace h := h.2 d7c
        exact hx2 _ _ (hj2 a2r _ ((c0l.bring 1).bring 1) h)
     ·replace h := h.2 d6Z
      refine a8 (f4 _ _ _ _ _ _) ?_
      refine g8 (fun d7d => ?_) (fun d7d => ?_)
      ·replace h := h.1 d7d
       exact hx2 _ _ (hj2 a7B _ ((a8q.bring 1).bring 1) h)
      ·replace h := h.2 d7d
       exact hx1 _ _ (hj1 a7B _ ((a8q.bring 1).bring 1) h)
theorem b5T (x0 : a7) {H : Hp} {K : a7 → Hp → Prop} (h : a2q x0 H K) : a2l x0 H K := by
 intro w I
 refine g5A ?_
 refine b5d x0 I (fun r0 H' w' I' hk => ⟨H', _, I', r0, rfl, rfl, hk⟩) h
def a2s (x0 : a7) (H : Hp) (K : a7 → Int → Hp → Prop) : Prop :=
 a6z x0 H (fun (k4 : Int) (a1P : Hp) =>
 (¬ (k4 = 0) →
 K (a7.mk 0 0 ⟨#[]⟩ (Sl.mk none 0 0)) k4 a1P) ∧
 (k4 = 0 →
 a2l x0 a1P (fun (K8 : a7) (a0D : Hp) =>
 K K8 0 a0D)))
theorem b5e (x0 : a7) {w0 w : World} {ps0 : Nat → Prop} {H0 H : Hp} {K : a7 → Int → Hp → Prop} {R : Value → World → Prop} {E : Pan} (I : Inv w0 ps0 H0 H [] w) (hR : ∀ (r0 : a7) (r1 : Int) (H' : Hp) (w' : World) (_ : Inv w0 ps0 H0 H' [] w') (_ : K r0 r1 H'), R (Value.tuple #[(Value.agg (b8 r0).toArray), (vi r1)]) w') (h : a2s x0 H K) : F11 (Value.agg (b8 x0).toArray) w R E := by
 unfold a2s at h
 unfold F11
 refine F7 I (cs := (b8 x0)) rfl fun g_2 w_3 I_4 k_5 => ?_
 refine u2 I_4 Tryd.zeroValue24 (cs := [(vi 0), (vi 0), (Value.string ⟨#[]⟩), (Value.slice none 0 0)]) rfl fun g_7 w_8 I_9 a6F => ?_
 refine d9 (ldA Tryd.isAgg24 Tryd.sizeOf24 rfl ((I_9.bring 1).at1 (o := 0) (vs := (b8 x0)) (nb rfl) rfl)) ?_
 refine f5 (cap := []) (fun args w => Tryd.call37 args w) ?_
 refine i6 (Fi := []) (Fr := [bx g_7 24 [(vi 0), (vi 0), (Value.string ⟨#[]⟩), (Value.slice none 0 0)], bx g_2 24 (b8 x0)]) I_9 (h) (fun d1I a1P d1J m6 a4E c2z d1K b3v => ?_) (fun _ _ _ _ _ q => q.elim)
 obtain ⟨k4, rfl, rfl, h⟩ := b3v
 refine a8 (o4 _ _ _ _ _ _) ?_
 refine a3g (fun a8r => ?_) (fun a8r => ?_)
 ·replace h := h.1 a8r
  refine a8 (c6c ) ?_
  refine k3 a4E Tryd.sizeOf24 (vs := [(vi 0), (vi 0), (Value.string ⟨#[]⟩), (Value.slice none 0 0)]) (cs' := [(vi 0), (vi 0), (Value.string ⟨#[]⟩), (Value.slice none 0 0)]) rfl rfl (nb rfl) rfl rfl fun o7 X6 a9P => ?_
  refine t6 Tryd.isAgg24 Tryd.sizeOf24 rfl (X6.at1 (o := 0) (vs := [(vi 0), (vi 0), (Value.string ⟨#[]⟩), (Value.slice none 0 0)]) (nb rfl) rfl) ?_
  exact hR (a7.mk 0 0 ⟨#[]⟩ (Sl.mk none 0 0)) k4 a1P _ X6.drop.drop h
 ·replace h := h.2 a8r
  refine d9 (ldA Tryd.isAgg24 Tryd.sizeOf24 rfl ((a4E.bring 1).at1 (o := 0) (vs := (b8 x0)) (nb rfl) rfl)) ?_
  refine f5 (cap := []) (fun args w => Tryd.call38 args w) ?_
  refine i6 (Fi := []) (Fr := [bx g_7 24 [(vi 0), (vi 0), (Value.string ⟨#[]⟩), (Value.slice none 0 0)], bx g_2 24 (b8 x0)]) a4E (h) (fun c9a a0D c5b q8 a2P c9b c4V b2m => ?_) (fun _ _ _ _ _ q => q.elim)
  obtain ⟨K8, rfl, rfl, h⟩ := b2m
  refine k3 a2P Tryd.sizeOf24 (vs := (b8 K8)) (cs' := (b8 K8)) rfl rfl (nb rfl) rfl rfl fun w5 a3u b8M => ?_
  refine t6 Tryd.isAgg24 Tryd.sizeOf24 rfl (a3u.at1 (o := 0) (vs := (b8 K8)) (nb rfl) rfl) ?_
  exact hR K8 0 a0D _ a3u.drop.drop h
theorem b5U (x0 : a7) {H : Hp} {K : a7 → Int → Hp → Prop} (h : a2s x0 H K) : a2m x0 H K := by
 intro w I
 refine g4V ?_
 refine b5e x0 I (fun r0 r1 H' w' I' hk => ⟨H', _, I', r0, r1, rfl, rfl, hk⟩) h
def u9 (R9 : (List d5)) (H : Hp) (K : Sl → Hp → Prop) : Prop :=
 ∀ (A7 : Sl) (U8 : Hp), Hle H U8 → SlH U8 4 d6 A7 R9 → A7.n ≤ A7.c →
 K A7 U8
def v2 (a0X : Sl) (a6H : Int) (r6 : (List d5)) (p6 : Int) (H : Hp) (n2 : ((List d5) × Int) → Hp → Prop) (K : Sl → Hp → Prop) : Prop :=
 (p6 < a6H →
 (0 : Int) ≤ p6 ∧ (p6 : Int) < a0X.n ∧ ∃ x_1 : d5, EltH H a0X p6 4 (d6 x_1) ∧
 a2o x_1 H (fun (L0 : d5) (Z9 : Hp) =>
 (r6.length + ([L0] : List d5).length) * 65 ≤ 140737488355328 ∧
 n2 ((r6 ++ [L0]), (IntKind.wrap .i64 (p6 + 1))) Z9)) ∧
 (¬ (p6 < a6H) →
 u9 r6 H K)
def w9 (x0 : Sl) (H : Hp) (K : Sl → Hp → Prop) : Prop :=
 TL (([], 0) : (List d5) × Int) H fun (s : (List d5) × Int) H n2 => v2 x0 (x0.n : Int) s.1 s.2 H n2 K
theorem a0u (x0 : Sl) {w0 w : World} {ps0 : Nat → Prop} {H0 H : Hp} {K : Sl → Hp → Prop} {R : Value → World → Prop} {E : Pan} (I : Inv w0 ps0 H0 H [] w) (hR : ∀ (r0 : Sl) (H' : Hp) (w' : World) (_ : Inv w0 ps0 H0 H' [] w') (_ : K r0 H'), R (vs r0) w') (h : w9 x0 H K) : F73 (vs x0) (Value.func (.func 42) #[] #[]) w R E := by
 unfold w9 at h
 unfold F73
 have hj1 : ∀ (R9 : (List d5)) (A7 : Sl) (Fs5j1 : Frag) (H : Hp) (w : World) (_ : RowL 27 4 d6 A7 R9 Fs5j1) (_ : Inv w0 ps0 H0 H [Fs5j1] w) (_ : u9 R9 H K), d1C (vs A7) w R E := by
  intro R9 A7 Fs5j1 H w b1i I h
  unfold d1C
  intro _
  unfold u9 at h
  obtain ⟨U8, b2o, b4P, a5V, a6I⟩ := Inv.freezeC I b1i (by decide)
  replace h := h A7 U8 b4P a5V a6I
  exact hR A7 U8 _ b2o h
 refine s8 fun j1 hx1 => ?_
 refine a8 (H8 _ _ _) ?_
 obtain ⟨a5u, a0E, b6A, b6B⟩ := h
 refine I0 (J := fun n l w => ∃ (s : (List d5) × Int) (H : Hp) (S2 : Sl) (Fs5l2 : Frag) , n = a0E s ∧ l = (match s with | (r6, p6) => [(vs S2), (vi p6)]) ∧ (match s with | (r6, p6) => RowL 27 4 d6 S2 r6 Fs5l2) ∧ (match s with | (r6, p6) => Inv w0 ps0 H0 H [Fs5l2] w) ∧ a5u s H) ⟨_, ([], 0), H, (Sl.mk none 0 0), [], rfl, rfl, (RowL.nil a7O a7P), I.nil, b6A⟩ ?_
 rintro d4u τ_50 w next2 ⟨⟨r6, p6⟩, H, S2, Fs5l2, rfl, a4C, a2S, I, b6C⟩ hn2
 dsimp only at a4C I a2S
 simp only [List.map_cons, List.map_nil, List.cons.injEq, and_true] at a4C
 obtain ⟨e5, e10⟩ := a4C
 simp only [e5, e10]
 obtain ⟨n2, hm2, h⟩ : ∃ n2 : ((List d5) × Int) → Hp → Prop, (∀ s' H', n2 s' H' → a5u s' H' ∧ a0E s' < a0E (r6, p6)) ∧ v2 x0 (x0.n : Int) r6 p6 H n2 K := ⟨_, fun _ _ h => h, b6B (r6, p6) H (fun s' H' => a5u s' H' ∧ a0E s' < a0E (r6, p6)) b6C (fun _ _ a b => ⟨a, b⟩)⟩
 unfold e0J
 unfold v2 at h
 refine a8 (o3 _ _ _ _ _ _) ?_
 refine g8 (fun a3v => ?_) (fun a3v => ?_)
 ·replace h := h.1 a3v
  obtain ⟨h_4, h_5, x_1, h_7, h⟩ := h
  obtain ⟨g_2, o_3, h_6, h_7⟩ := h_7
  refine a8 (T9 h_6 _ _ _ _ h_4 h_5) ?_
  refine d9 (ldA (vs := (d6 x_1)) Tryd.isAgg27 Tryd.sizeOf27 rfl (I.atH h_7)) ?_
  refine u2 I Tryd.zeroValue27 (cs := [(vi 0), (vi 0), (Value.slice none 0 0), (Value.slice none 0 0)]) rfl fun g_9 l0 a3w b4Q => ?_
  refine k3 a3w Tryd.sizeOf27 (vs := (d6 x_1)) (cs' := (d6 x_1)) rfl rfl (nb rfl) rfl rfl fun a2w J7 a2T => ?_
  refine d9 (ldA Tryd.isAgg27 Tryd.sizeOf27 rfl (J7.at1 (o := 0) (vs := (d6 x_1)) (nb rfl) rfl)) ?_
  refine f5 (cap := []) (fun args w => Tryd.call42 args w) ?_
  refine i6 (Fi := []) (Fr := [bx g_9 27 (d6 x_1), Fs5l2]) J7 (h) (fun c9g Z9 c5f a1C a5r c9h c9i b2p => ?_) (fun _ _ _ _ _ q => q.elim)
  obtain ⟨L0, rfl, rfl, h⟩ := b2p
  refine a5R (e := 27) (c := d6) (xs := [L0]) a5r (d2p _ _ _ _ _ _ _ _) rfl rfl a7O a7P (nb rfl) fun c5g b8F w4 a8a a0F a8V => ?_
  obtain ⟨b2q, h⟩ := h
  refine d8N (s := S2) (xs := r6) (a0F.bring 2) a2S (a8a.srcO ((a0F.bring 2).bring 1)) b2q fun a7v b0P z2 a9Q a7w c5h => ?_
  refine a8 (s9 _ _ _ _ _ _) ?_
  exact hn2 _ _ _ (hm2 _ _ h).2 ⟨((r6 ++ [L0]), (IntKind.wrap .i64 (p6 + 1))), Z9, a7v, b0P, rfl, rfl, a9Q, ((a7w.bring 1).drop.bring 1).drop, (hm2 _ _ h).1⟩
 ·replace h := h.2 a3v
  exact hx1 _ _ (hj1 r6 S2 Fs5l2 H _ a2S I h)
theorem a0w (x0 : Sl) {H : Hp} {K : Sl → Hp → Prop} (h : w9 x0 H K) : D5 x0 H K := by
 intro w I
 refine g7X ?_
 refine a0u x0 I (fun r0 H' w' I' hk => ⟨H', _, I', r0, rfl, rfl, hk⟩) h
def X8 (x0 : Bool) (H : Hp) (K : d5 → Hp → Prop) : Prop :=
 (x0 = true →
 K (d5.mk 1 0 (Sl.mk none 0 0) (Sl.mk none 0 0)) H) ∧
 (x0 = false →
 K (d5.mk 2 0 (Sl.mk none 0 0) (Sl.mk none 0 0)) H)
theorem b3Y (x0 : Bool) {w0 w : World} {ps0 : Nat → Prop} {H0 H : Hp} {K : d5 → Hp → Prop} {R : Value → World → Prop} {E : Pan} (I : Inv w0 ps0 H0 H [] w) (hR : ∀ (r0 : d5) (H' : Hp) (w' : World) (_ : Inv w0 ps0 H0 H' [] w') (_ : K r0 H'), R (Value.agg (d6 r0).toArray) w') (h : X8 x0 H K) : F74 (Value.bool x0) w R E := by
 unfold X8 at h
 unfold F74
 refine u2 I Tryd.zeroValue27 (cs := [(vi 0), (vi 0), (Value.slice none 0 0), (Value.slice none 0 0)]) rfl fun g_2 w_3 I_4 k_5 => ?_
 refine j9 (fun b2W => ?_) (fun b2W => ?_)
 ·replace h := h.1 b2W
  refine a8 (b0q _) ?_
  refine k3 I_4 Tryd.sizeOf27 (vs := [(vi 1), (vi 0), (Value.slice none 0 0), (Value.slice none 0 0)]) (cs' := [(vi 1), (vi 0), (Value.slice none 0 0), (Value.slice none 0 0)]) rfl rfl (nb rfl) rfl rfl fun w_6 I_7 k_8 => ?_
  refine t6 Tryd.isAgg27 Tryd.sizeOf27 rfl (I_7.at1 (o := 0) (vs := [(vi 1), (vi 0), (Value.slice none 0 0), (Value.slice none 0 0)]) (nb rfl) rfl) ?_
  exact hR (d5.mk 1 0 (Sl.mk none 0 0) (Sl.mk none 0 0)) H _ I_7.drop h
 ·replace h := h.2 b2W
  refine a8 (b0q _) ?_
  refine k3 I_4 Tryd.sizeOf27 (vs := [(vi 2), (vi 0), (Value.slice none 0 0), (Value.slice none 0 0)]) (cs' := [(vi 2), (vi 0), (Value.slice none 0 0), (Value.slice none 0 0)]) rfl rfl (nb rfl) rfl rfl fun w_9 a9S c1y => ?_
  refine t6 Tryd.isAgg27 Tryd.sizeOf27 rfl (a9S.at1 (o := 0) (vs := [(vi 2), (vi 0), (Value.slice none 0 0), (Value.slice none 0 0)]) (nb rfl) rfl) ?_
  exact hR (d5.mk 2 0 (Sl.mk none 0 0) (Sl.mk none 0 0)) H _ a9S.drop h
theorem b5f (x0 : Bool) {H : Hp} {K : d5 → Hp → Prop} (h : X8 x0 H K) : a1W x0 H K := by
 intro w I
 refine g7Z ?_
 refine b3Y x0 I (fun r0 H' w' I' hk => ⟨H', _, I', r0, rfl, rfl, hk⟩) h
def Q0 (c0n : Bool) (cr_32j2 : d5) (cr_27j2 : d5) (cr_6j2 : d5) (cr_1j2 : d5) (H : Hp) (K : d5 → Hp → Prop) : Prop :=
 (c0n = true →
 K cr_27j2 H) ∧
 (c0n = false →
 K cr_1j2 H)
def Y6 (c2e : Int) (b0O : Int) (cr_32j1 : d5) (cr_27j1 : d5) (cr_6j1 : d5) (cr_1j1 : d5) (H : Hp) (K : d5 → Hp → Prop) : Prop :=
 (cr_27j1.b9 = c2e →
 K cr_32j1 H) ∧
 (¬ (cr_27j1.b9 = c2e) →
 (cr_27j1.b9 = b0O →
 Q0 (decide (cr_27j1.b9 = b0O)) cr_32j1 cr_27j1 cr_6j1 cr_1j1 H K) ∧
 (¬ (cr_27j1.b9 = b0O) →
 Q0 (decide (cr_32j1.b9 = c2e)) cr_32j1 cr_27j1 cr_6j1 cr_1j1 H K))
def a1t (x0 : d5) (x1 : Int) (x2 : Int) (H : Hp) (K : d5 → Hp → Prop) : Prop :=
 (0 : Int) ≤ 0 ∧ (0 : Int) < x0.i7.n ∧ ∃ X7 : d5, EltH H x0.i7 0 4 (d6 X7) ∧
 (0 : Int) ≤ 1 ∧ (1 : Int) < x0.i7.n ∧ ∃ a4Y : d5, EltH H x0.i7 1 4 (d6 a4Y) ∧
 Y6 x1 x2 a4Y X7 (d5.mk 0 0 (Sl.mk none 0 0) (Sl.mk none 0 0)) x0 H K
theorem b3w (x0 : d5) (x1 : Int) (x2 : Int) {w0 w : World} {ps0 : Nat → Prop} {H0 H : Hp} {K : d5 → Hp → Prop} {R : Value → World → Prop} {E : Pan} (I : Inv w0 ps0 H0 H [] w) (hR : ∀ (r0 : d5) (H' : Hp) (w' : World) (_ : Inv w0 ps0 H0 H' [] w') (_ : K r0 H'), R (Value.agg (d6 r0).toArray) w') (h : a1t x0 x1 x2 H K) : F76 (Value.agg (d6 x0).toArray) (vi x1) (vi x2) w R E := by
 unfold a1t at h
 unfold F76
 refine F7 I (cs := (d6 x0)) rfl fun g_2 w_3 I_4 k_5 => ?_
 refine u2 I_4 Tryd.zeroValue27 (cs := [(vi 0), (vi 0), (Value.slice none 0 0), (Value.slice none 0 0)]) rfl fun g_7 w_8 I_9 a6F => ?_
 have hj1 : ∀ (cr_32j1 : d5) (cr_27j1 : d5) (gbr_32j1 : Nat) (gbr_27j1 : Nat) (H : Hp) (w : World) (_ : Inv w0 ps0 H0 H [bx gbr_32j1 27 (d6 cr_32j1), bx gbr_27j1 27 (d6 cr_27j1), bx g_7 27 [(vi (d5.mk 0 0 (Sl.mk none 0 0) (Sl.mk none 0 0)).b9), (vi (d5.mk 0 0 (Sl.mk none 0 0) (Sl.mk none 0 0)).fOp), (Value.slice (d5.mk 0 0 (Sl.mk none 0 0) (Sl.mk none 0 0)).g5.a (d5.mk 0 0 (Sl.mk none 0 0) (Sl.mk none 0 0)).g5.n (d5.mk 0 0 (Sl.mk none 0 0) (Sl.mk none 0 0)).g5.c), (Value.slice (d5.mk 0 0 (Sl.mk none 0 0) (Sl.mk none 0 0)).i7.a (d5.mk 0 0 (Sl.mk none 0 0) (Sl.mk none 0 0)).i7.n (d5.mk 0 0 (Sl.mk none 0 0) (Sl.mk none 0 0)).i7.c)], bx g_2 27 (d6 x0)] w) (_ : Y6 x1 x2 cr_32j1 cr_27j1 (d5.mk 0 0 (Sl.mk none 0 0) (Sl.mk none 0 0)) x0 H K), d1E (vi x1) (vi x2) (Value.pointer (some ⟨g_2, 0, none⟩)) (Value.pointer (some ⟨g_7, 0, none⟩)) (Value.pointer (some ⟨gbr_27j1, 0, none⟩)) (Value.pointer (some ⟨gbr_32j1, 0, none⟩)) w R E := by
  intro cr_32j1 cr_27j1 gbr_32j1 gbr_27j1 H w I h
  unfold d1E
  intro _
  unfold Y6 at h
  refine a8 B3 ?_
  refine d9 (ld1 Tryd.isAgg3 ((I.bring 1).at1 (o := 0) (vs := [(vi cr_27j1.b9)]) (nb rfl) rfl)) ?_
  refine a8 (f4 _ _ _ _ _ _) ?_
  refine g8 (fun e5p => ?_) (fun e5p => ?_)
  ·replace h := h.1 e5p
   refine d9 (ldA Tryd.isAgg27 Tryd.sizeOf27 rfl (I.at1 (o := 0) (vs := (d6 cr_32j1)) (nb rfl) rfl)) ?_
   refine k3 (I.bring 2) Tryd.sizeOf27 (vs := (d6 cr_32j1)) (cs' := (d6 cr_32j1)) rfl rfl (nb rfl) rfl rfl fun c4C g8u i2f => ?_
   refine t6 Tryd.isAgg27 Tryd.sizeOf27 rfl (g8u.at1 (o := 0) (vs := (d6 cr_32j1)) (nb rfl) rfl) ?_
   exact hR cr_32j1 H _ g8u.drop.drop.drop.drop h
  ·replace h := h.2 e5p
   have hj2 : ∀ (c0n : Bool) (H : Hp) (w : World) (_ : Inv w0 ps0 H0 H [bx gbr_32j1 27 (d6 cr_32j1), bx gbr_27j1 27 (d6 cr_27j1), bx g_7 27 [(vi (d5.mk 0 0 (Sl.mk none 0 0) (Sl.mk none 0 0)).b9), (vi (d5.mk 0 0 (Sl.mk none 0 0) (Sl.mk none 0 0)).fOp), (Value.slice (d5.mk 0 0 (Sl.mk none 0 0) (Sl.mk none 0 0)).g5.a (d5.mk 0 0 (Sl.mk none 0 0) (Sl.mk none 0 0)).g5.n (d5.mk 0 0 (Sl.mk none 0 0) (Sl.mk none 0 0)).g5.c), (Value.slice (d5.mk 0 0 (Sl.mk none 0 0) (Sl.mk none 0 0)).i7.a (d5.mk 0 0 (Sl.mk none 0 0) (Sl.mk none 0 0)).i7.n (d5.mk 0 0 (Sl.mk none 0 0) (Sl.mk none 0 0)).i7.c)], bx g_2 27 (d6 x0)] w) (_ : Q0 c0n cr_32j1 cr_27j1 (d5.mk 0 0 (Sl.mk none 0 0) (Sl.mk none 0 0)) x0 H K), d1D (Value.pointer (some ⟨g_2, 0, none⟩)) (Value.pointer (some ⟨g_7, 0, none⟩)) (Value.pointer (some ⟨gbr_27j1, 0, none⟩)) (Value.bool c0n) w R E := by
    intro c0n H w I h
    unfold d1D
    intro _
    unfold Q0 at h
    refine j9 (fun e5q => ?_) (fun e5q => ?_)
    ·replace h := h.1 e5q
     refine d9 (ldA Tryd.isAgg27 Tryd.sizeOf27 rfl ((I.bring 1).at1 (o := 0) (vs := (d6 cr_27j1)) (nb rfl) rfl)) ?_
     refine k3 (I.bring 2) Tryd.sizeOf27 (vs := (d6 cr_27j1)) (cs' := (d6 cr_27j1)) rfl rfl (nb rfl) rfl rfl fun M5 g8v i2g => ?_
     refine t6 Tryd.isAgg27 Tryd.sizeOf27 rfl (g8v.at1 (o := 0) (vs := (d6 cr_27j1)) (nb rfl) rfl) ?_
     exact hR cr_27j1 H _ g8v.drop.drop.drop.drop h
    ·replace h := h.2 e5q
     refine d9 (ldA Tryd.isAgg27 Tryd.sizeOf27 rfl ((I.bring 3).at1 (o := 0) (vs := (d6 x0)) (nb rfl) rfl)) ?_
     refine k3 (I.bring 2) Tryd.sizeOf27 (vs := (d6 x0)) (cs' := (d6 x0)) rfl rfl (nb rfl) rfl rfl fun c4D g8w i2h => ?_
     refine t6 Tryd.isAgg27 Tryd.sizeOf27 rfl (g8w.at1 (o := 0) (vs := (d6 x0)) (nb rfl) rfl) ?_
     exact hR x0 H _ g8w.drop.drop.drop.drop h
   refine s8 fun j2 hx2 => ?_
   refine a8 B3 ?_
   refine d9 (ld1 Tryd.isAgg3 ((I.bring 1).at1 (o := 0) (vs := [(vi cr_27j1.b9)]) (nb rfl) rfl)) ?_
   refine a8 (f4 _ _ _ _ _ _) ?_
   refine g8 (fun e5r => ?_) (fun e5r => ?_)
   ·replace h := h.1 e5r
    exact hx2 _ _ (hj2 (decide (cr_27j1.b9 = x2)) H _ ((((I.bring 3).bring 3).bring 3).bring 3) h)
   ·replace h := h.2 e5r
    refine a8 B3 ?_
    refine d9 (ld1 Tryd.isAgg3 (I.at1 (o := 0) (vs := [(vi cr_32j1.b9)]) (nb rfl) rfl)) ?_
    refine a8 (f4 _ _ _ _ _ _) ?_
    exact hx2 _ _ (hj2 (decide (cr_32j1.b9 = x1)) H _ ((((I.bring 3).bring 3).bring 3).bring 3) h)
 refine s8 fun j1 hx1 => ?_
 refine a9F I_9 fun K6 q5 => ?_
 refine t1 s5 ?_
 refine t1 s5 ?_
 refine G8 (ld1 Tryd.isAgg25 ((q5.bring 1).at1 (o := 3) (vs := [(vs x0.i7)]) (nb rfl) rfl)) ?_
 obtain ⟨a9Y, a9Z, X7, a1M, h⟩ := h
 obtain ⟨d4F, d4G, b6R, a1M⟩ := a1M
 refine t1 (T9 b6R _ _ _ _ a9Y a9Z) ?_
 refine G8 (ldA (vs := (d6 X7)) Tryd.isAgg27 Tryd.sizeOf27 rfl (q5.atH a1M)) ?_
 refine G8 (ld1 Tryd.isAgg25 ((q5.bring 1).at1 (o := 3) (vs := [(vs x0.i7)]) (nb rfl) rfl)) ?_
 obtain ⟨b0a, b6S, a4Y, a5x, h⟩ := h
 obtain ⟨f9R, f9S, b2G, a5x⟩ := a5x
 refine t1 (T9 b2G _ _ _ _ b0a b6S) ?_
 refine G8 (ldA (vs := (d6 a4Y)) Tryd.isAgg27 Tryd.sizeOf27 rfl (q5.atH a5x)) ?_
 refine ⟨?_, ?_⟩
 ·refine u2 q5 Tryd.zeroValue27 (cs := [(vi 0), (vi 0), (Value.slice none 0 0), (Value.slice none 0 0)]) rfl fun h5R a8b a0F a8V => ?_
  refine ⟨(a8V _ (q5.b0x a5x)), (a8V _ (q5.bring 1).lt1), (a8V _ (q5.b0x a1M)), (a8V _ (q5.bring 1).lt1), ?_⟩
  refine u2 a0F Tryd.zeroValue27 (cs := [(vi 0), (vi 0), (Value.slice none 0 0), (Value.slice none 0 0)]) rfl fun h5S z2 a5a c5T => ?_
  refine ⟨(c5T _ (a0F.b0x a5x)), (c5T _ (a0F.bring 2).lt1), (c5T _ (a0F.b0x a1M)), (c5T _ (a0F.bring 2).lt1), ?_⟩
  refine k3 (a5a.bring 1) Tryd.sizeOf27 (vs := (d6 X7)) (cs' := (d6 X7)) rfl rfl (nb rfl) rfl rfl fun b4O b6x e1F => ?_
  refine ⟨(e1F _ (Inv.f3V (a5a.bring 1) a5x)), (e1F _ (Inv.f3W ((a5a.bring 3).bring 2))), ?_⟩
  refine k3 (b6x.bring 1) Tryd.sizeOf27 (vs := (d6 a4Y)) (cs' := (d6 a4Y)) rfl rfl (nb rfl) rfl rfl fun F5 c5c f9M => ?_
  exact hx1 _ _ (hj1 a4Y X7 h5S h5R H _ ((((c5c.bring 3).bring 3).bring 3).bring 3) h)
 ·refine u2 q5 Tryd.zeroValue27 (cs := [(vi 0), (vi 0), (Value.slice none 0 0), (Value.slice none 0 0)]) rfl fun h5T c1X b2O c1Y => ?_
  refine ⟨(c1Y _ (q5.b0x a5x)), (c1Y _ (q5.bring 1).lt1), (c1Y _ (q5.b0x a1M)), (c1Y _ (q5.bring 1).lt1), ?_⟩
  refine u2 b2O Tryd.zeroValue27 (cs := [(vi 0), (vi 0), (Value.slice none 0 0), (Value.slice none 0 0)]) rfl fun h5U L2 b8O c5p => ?_
  refine ⟨(c5p _ (b2O.b0x a5x)), (c5p _ (b2O.bring 2).lt1), (c5p _ (b2O.b0x a1M)), (c5p _ (b2O.bring 2).lt1), ?_⟩
  refine k3 b8O Tryd.sizeOf27 (vs := (d6 X7)) (cs' := (d6 X7)) rfl rfl (nb rfl) rfl rfl fun a9I c8Z d4j => ?_
  refine ⟨(d4j _ (Inv.f3V b8O a5x)), (d4j _ (Inv.f3W ((b8O.bring 3).bring 1))), ?_⟩
  refine k3 (c8Z.bring 1) Tryd.sizeOf27 (vs := (d6 a4Y)) (cs' := (d6 a4Y)) rfl rfl (nb rfl) rfl rfl fun U7 c5I g2G => ?_
  exact hx1 _ _ (hj1 a4Y X7 h5T h5U H _ ((((c5I.bring 3).bring 3).bring 3).bring 3) h)
theorem b3Z (x0 : d5) (x1 : Int) (x2 : Int) {H : Hp} {K : d5 → Hp → Prop} (h : a1t x0 x1 x2 H K) : a0Z x0 x1 x2 H K := by
 intro w I
 refine g8k ?_
 refine b3w x0 x1 x2 I (fun r0 H' w' I' hk => ⟨H', _, I', r0, rfl, rfl, hk⟩) h
def N4 (cr_1j1 : d5) (cr_6j1 : d5) (H : Hp) (K : d5 → Hp → Prop) : Prop :=
 K cr_1j1 H
def a2t (x0 : d5) (H : Hp) (K : d5 → Hp → Prop) : Prop :=
 w7 x0.g5 H (fun (u0 : Sl) (a3z : Hp) =>
 D5 x0.i7 a3z (fun (r7 : Sl) (a3A : Hp) =>
 (x0.b9 = 3 →
 (0 : Int) ≤ 0 ∧ (0 : Int) < u0.n ∧ ∃ d7e : a7, EltH a3A u0 0 4 (b8 d7e) ∧
 H7 d7e a3A (fun (b7z : Int) (b1C : Bool) (a7B : Hp) =>
 (0 : Int) ≤ 1 ∧ (1 : Int) < u0.n ∧ ∃ d7f : a7, EltH a7B u0 1 4 (b8 d7f) ∧
 H7 d7f a7B (fun (b7C : Int) (c7n : Bool) (c2A : Hp) =>
 ((b1C && c7n) = true →
 a7X x0.fOp b7z b7C c2A (fun (a2Q : Bool) (a7Y : Hp) =>
 a1W a2Q a7Y (fun (a4K : d5) (a7u : Hp) =>
 K a4K a7u))) ∧
 ((b1C && c7n) = false →
 N4 (d5.mk x0.b9 x0.fOp u0 r7) (d5.mk 0 0 (Sl.mk none 0 0) (Sl.mk none 0 0)) c2A K)))) ∧
 (¬ (x0.b9 = 3) →
 (x0.b9 = 4 →
 (0 : Int) ≤ 0 ∧ (0 : Int) < r7.n ∧ ∃ b9q : d5, EltH a3A r7 0 4 (d6 b9q) ∧
 (((decide (b9q.b9 = 1)) || (decide (b9q.b9 = 2))) = true →
 a1W (decide (b9q.b9 = 2)) a3A (fun (b5V : d5) (d7g : Hp) =>
 K b5V d7g)) ∧
 (((decide (b9q.b9 = 1)) || (decide (b9q.b9 = 2))) = false →
 N4 (d5.mk x0.b9 x0.fOp u0 r7) (d5.mk 0 0 (Sl.mk none 0 0) (Sl.mk none 0 0)) a3A K)) ∧
 (¬ (x0.b9 = 4) →
 (x0.b9 = 5 →
 a0Z (d5.mk x0.b9 x0.fOp u0 r7) 1 2 a3A (fun (b5W : d5) (d7h : Hp) =>
 K b5W d7h)) ∧
 (¬ (x0.b9 = 5) →
 (x0.b9 = 6 →
 a0Z (d5.mk x0.b9 x0.fOp u0 r7) 2 1 a3A (fun (b5X : d5) (d7i : Hp) =>
 K b5X d7i)) ∧
 (¬ (x0.b9 = 6) →
 N4 (d5.mk x0.b9 x0.fOp u0 r7) (d5.mk 0 0 (Sl.mk none 0 0) (Sl.mk none 0 0)) a3A K))))))
theorem b5g (x0 : d5) {w0 w : World} {ps0 : Nat → Prop} {H0 H : Hp} {K : d5 → Hp → Prop} {R : Value → World → Prop} {E : Pan} (I : Inv w0 ps0 H0 H [] w) (hR : ∀ (r0 : d5) (H' : Hp) (w' : World) (_ : Inv w0 ps0 H0 H' [] w') (_ : K r0 H'), R (Value.agg (d6 r0).toArray) w') (h : a2t x0 H K) : F42 (Value.agg (d6 x0).toArray) w R E := by
 unfold a2t at h
 unfold F42
 refine F7 I (cs := (d6 x0)) rfl fun g_2 w_3 I_4 k_5 => ?_
 refine u2 I_4 Tryd.zeroValue27 (cs := [(vi 0), (vi 0), (Value.slice none 0 0), (Value.slice none 0 0)]) rfl fun g_7 w_8 I_9 a6F => ?_
 refine a9F I_9 fun K6 q5 => ?_
 refine t1 u1 ?_
 refine t1 s5 ?_
 refine G8 (ld1 Tryd.isAgg22 ((q5.bring 1).at1 (o := 2) (vs := [(vs x0.g5)]) (nb rfl) rfl)) ?_
 refine G8 (ld1 Tryd.isAgg25 ((q5.bring 1).at1 (o := 3) (vs := [(vs x0.i7)]) (nb rfl) rfl)) ?_
 refine f5 (cap := []) (fun args w => Tryd.call61 args w) ?_
 refine i6 (Fi := []) (Fr := [bx g_7 27 [(vi 0), (vi 0), (Value.slice none 0 0), (Value.slice none 0 0)], bx g_2 27 (d6 x0)]) q5 (h) (fun i2i a3z i2j l8 c1o d5g c8X h5V => ?_) (fun _ _ _ _ _ q => q.elim)
 obtain ⟨u0, rfl, rfl, h⟩ := h5V
 refine ⟨(c8X _ (q5.bring 1).lt1 (Inv.a5J (Fi := []) (q5.bring 1))), ?_⟩
 refine t1 u1 ?_
 refine f5 (cap := []) (fun args w => Tryd.call73 args w) ?_
 refine i6 (Fi := []) (Fr := [bx g_7 27 [(vi 0), (vi 0), (Value.slice none 0 0), (Value.slice none 0 0)], bx g_2 27 (d6 x0)]) c1o (h) (fun h4i a3A b8F b4H b8L h4j f9T e2x => ?_) (fun _ _ _ _ _ q => q.elim)
 obtain ⟨r7, rfl, rfl, h⟩ := e2x
 refine k3 (b8L.bring 1) Tryd.sizeOf22 (vs := [(vs u0)]) (cs' := [(vi x0.b9), (vi x0.fOp), (vs u0), (vs x0.i7)]) rfl rfl (nb rfl) rfl rfl fun b9n e5s h5W => ?_
 refine t1 s5 ?_
 refine k3 e5s Tryd.sizeOf25 (vs := [(vs r7)]) (cs' := [(vi x0.b9), (vi x0.fOp), (vs u0), (vs r7)]) rfl rfl (nb rfl) rfl rfl fun z2 a5a c5T => ?_
 have hj1 : ∀ (H : Hp) (w : World) (_ : Inv w0 ps0 H0 H [bx g_2 27 [(vi (d5.mk x0.b9 x0.fOp u0 r7).b9), (vi (d5.mk x0.b9 x0.fOp u0 r7).fOp), (Value.slice (d5.mk x0.b9 x0.fOp u0 r7).g5.a (d5.mk x0.b9 x0.fOp u0 r7).g5.n (d5.mk x0.b9 x0.fOp u0 r7).g5.c), (Value.slice (d5.mk x0.b9 x0.fOp u0 r7).i7.a (d5.mk x0.b9 x0.fOp u0 r7).i7.n (d5.mk x0.b9 x0.fOp u0 r7).i7.c)], bx g_7 27 [(vi (d5.mk 0 0 (Sl.mk none 0 0) (Sl.mk none 0 0)).b9), (vi (d5.mk 0 0 (Sl.mk none 0 0) (Sl.mk none 0 0)).fOp), (Value.slice (d5.mk 0 0 (Sl.mk none 0 0) (Sl.mk none 0 0)).g5.a (d5.mk 0 0 (Sl.mk none 0 0) (Sl.mk none 0 0)).g5.n (d5.mk 0 0 (Sl.mk none 0 0) (Sl.mk none 0 0)).g5.c), (Value.slice (d5.mk 0 0 (Sl.mk none 0 0) (Sl.mk none 0 0)).i7.a (d5.mk 0 0 (Sl.mk none 0 0) (Sl.mk none 0 0)).i7.n (d5.mk 0 0 (Sl.mk none 0 0) (Sl.mk none 0 0)).i7.c)]] w) (_ : N4 (d5.mk x0.b9 x0.fOp u0 r7) (d5.mk 0 0 (Sl.mk none 0 0) (Sl.mk none 0 0)) H K), d1n (Value.pointer (some ⟨g_2, 0, none⟩)) (Value.pointer (some ⟨g_7, 0, none⟩)) w R E := by
  intro H w I h
  unfold d1n
  intro _
  unfold N4 at h
  refine d9 (ldA Tryd.isAgg27 Tryd.sizeOf27 rfl (I.at1 (o := 0) (vs := [(vi (d5.mk x0.b9 x0.fOp u0 r7).b9), (vi (d5.mk x0.b9 x0.fOp u0 r7).fOp), (Value.slice (d5.mk x0.b9 x0.fOp u0 r7).g5.a (d5.mk x0.b9 x0.fOp u0 r7).g5.n (d5.mk x0.b9 x0.fOp u0 r7).g5.c), (Value.slice (d5.mk x0.b9 x0.fOp u0 r7).i7.a (d5.mk x0.b9 x0.fOp u0 r7).i7.n (d5.mk x0.b9 x0.fOp u0 r7).i7.c)]) (nb rfl) rfl)) ?_
  refine k3 (I.bring 1) Tryd.sizeOf27 (vs := [(vi (d5.mk x0.b9 x0.fOp u0 r7).b9), (vi (d5.mk x0.b9 x0.fOp u0 r7).fOp), (Value.slice (d5.mk x0.b9 x0.fOp u0 r7).g5.a (d5.mk x0.b9 x0.fOp u0 r7).g5.n (d5.mk x0.b9 x0.fOp u0 r7).g5.c), (Value.slice (d5.mk x0.b9 x0.fOp u0 r7).i7.a (d5.mk x0.b9 x0.fOp u0 r7).i7.n (d5.mk x0.b9 x0.fOp u0 r7).i7.c)]) (cs' := [(vi (d5.mk x0.b9 x0.fOp u0 r7).b9), (vi (d5.mk x0.b9 x0.fOp u0 r7).fOp), (Value.slice (d5.mk x0.b9 x0.fOp u0 r7).g5.a (d5.mk x0.b9 x0.fOp u0 r7).g5.n (d5.mk x0.b9 x0.fOp u0 r7).g5.c), (Value.slice (d5.mk x0.b9 x0.fOp u0 r7).i7.a (d5.mk x0.b9 x0.fOp u0 r7).i7.n (d5.mk x0.b9 x0.fOp u0 r7).i7.c)]) rfl rfl (nb rfl) rfl rfl fun a2g g8x i2k => ?_
  refine t6 Tryd.isAgg27 Tryd.sizeOf27 rfl (g8x.at1 (o := 0) (vs := [(vi (d5.mk x0.b9 x0.fOp u0 r7).b9), (vi (d5.mk x0.b9 x0.fOp u0 r7).fOp), (Value.slice (d5.mk x0.b9 x0.fOp u0 r7).g5.a (d5.mk x0.b9 x0.fOp u0 r7).g5.n (d5.mk x0.b9 x0.fOp u0 r7).g5.c), (Value.slice (d5.mk x0.b9 x0.fOp u0 r7).i7.a (d5.mk x0.b9 x0.fOp u0 r7).i7.n (d5.mk x0.b9 x0.fOp u0 r7).i7.c)]) (nb rfl) rfl) ?_
  exact hR (d5.mk x0.b9 x0.fOp u0 r7) H _ g8x.drop.drop h
 refine s8 fun j1 hx1 => ?_
 refine a8 B3 ?_
 refine d9 (ld1 Tryd.isAgg3 (a5a.at1 (o := 0) (vs := [(vi x0.b9)]) (nb rfl) rfl)) ?_
 refine a8 (f4 _ _ _ _ _ _) ?_
 refine g8 (fun d7j => ?_) (fun d7j => ?_)
 ·replace h := h.1 d7j
  refine a8 u1 ?_
  refine d9 (ld1 Tryd.isAgg22 (a5a.at1 (o := 2) (vs := [(vs u0)]) (nb rfl) rfl)) ?_
  obtain ⟨h5X, c5Q, d7e, a6I, h⟩ := h
  obtain ⟨i2l, i2m, a5V, a6I⟩ := a6I
  refine a8 (m7 a5V _ _ _ _ h5X c5Q) ?_
  refine d9 (ldA (vs := (b8 d7e)) Tryd.isAgg24 Tryd.sizeOf24 rfl (a5a.atH a6I)) ?_
  refine f5 (cap := []) (fun args w => Tryd.call62 args w) ?_
  refine i6 (Fi := []) (Fr := [bx g_2 27 [(vi x0.b9), (vi x0.fOp), (vs u0), (vs r7)], bx g_7 27 [(vi 0), (vi 0), (Value.slice none 0 0), (Value.slice none 0 0)]]) a5a (h) (fun h5K a7B h5L b6n a8q a4C h5M e5m => ?_) (fun _ _ _ _ _ q => q.elim)
  obtain ⟨b7z, b1C, rfl, rfl, h⟩ := e5m
  refine a8 (i4 _ _ (vi b7z) rfl) ?_
  refine a8 (i4 _ _ (Value.bool b1C) rfl) ?_
  refine a8 u1 ?_
  refine d9 (ld1 Tryd.isAgg22 (a8q.at1 (o := 2) (vs := [(vs u0)]) (nb rfl) rfl)) ?_
  obtain ⟨b6Z, e5t, d7f, c9d, h⟩ := h
  obtain ⟨i2n, i2o, e5u, c9d⟩ := c9d
  refine a8 (m7 e5u _ _ _ _ b6Z e5t) ?_
  refine d9 (ldA (vs := (b8 d7f)) Tryd.isAgg24 Tryd.sizeOf24 rfl (a8q.atH c9d)) ?_
  refine f5 (cap := []) (fun args w => Tryd.call62 args w) ?_
  refine i6 (Fi := []) (Fr := [bx g_2 27 [(vi x0.b9), (vi x0.fOp), (vs u0), (vs r7)], bx g_7 27 [(vi 0), (vi 0), (Value.slice none 0 0), (Value.slice none 0 0)]]) a8q (h) (fun h5Y c2A h5Z b8N d1M h6a h6b e5v => ?_) (fun _ _ _ _ _ q => q.elim)
  obtain ⟨b7C, c7n, rfl, rfl, h⟩ := e5v
  refine a8 (i4 _ _ (vi b7C) rfl) ?_
  refine a8 (i4 _ _ (Value.bool c7n) rfl) ?_
  try simp only [m4]
  refine a8 (k9 _ _) ?_
  refine j9 (fun e5w => ?_) (fun e5w => ?_)
  ·replace h := h.1 e5w
   refine a8 G9 ?_
   refine d9 (ld1 Tryd.isAgg3 (d1M.at1 (o := 1) (vs := [(vi x0.fOp)]) (nb rfl) rfl)) ?_
   refine f5 (cap := []) (fun args w => Tryd.call75 args w) ?_
   refine i6 (Fi := []) (Fr := [bx g_2 27 [(vi x0.b9), (vi x0.fOp), (vs u0), (vs r7)], bx g_7 27 [(vi 0), (vi 0), (Value.slice none 0 0), (Value.slice none 0 0)]]) d1M (h) (fun c4Z a7Y e1u U1 b8D e1v e1w c1q => ?_) (fun _ _ _ _ _ q => q.elim)
   obtain ⟨a2Q, rfl, rfl, h⟩ := c1q
   refine f5 (cap := []) (fun args w => Tryd.call74 args w) ?_
   refine i6 (Fi := []) (Fr := [bx g_2 27 [(vi x0.b9), (vi x0.fOp), (vs u0), (vs r7)], bx g_7 27 [(vi 0), (vi 0), (Value.slice none 0 0), (Value.slice none 0 0)]]) b8D (h) (fun d4k a7u h3o b1Y c5a e1x e1y e1z => ?_) (fun _ _ _ _ _ q => q.elim)
   obtain ⟨a4K, rfl, rfl, h⟩ := e1z
   refine k3 (c5a.bring 1) Tryd.sizeOf27 (vs := (d6 a4K)) (cs' := (d6 a4K)) rfl rfl (nb rfl) rfl rfl fun g6s g8y i2p => ?_
   refine t6 Tryd.isAgg27 Tryd.sizeOf27 rfl (g8y.at1 (o := 0) (vs := (d6 a4K)) (nb rfl) rfl) ?_
   exact hR a4K a7u _ g8y.drop.drop h
  ·replace h := h.2 e5w
   exact hx1 _ _ (hj1 c2A _ ((d1M.bring 1).bring 1) h)
 ·replace h := h.2 d7j
  refine a8 (f4 _ _ _ _ _ _) ?_
  refine g8 (fun d7k => ?_) (fun d7k => ?_)
  ·replace h := h.1 d7k
   refine a8 s5 ?_
   refine d9 (ld1 Tryd.isAgg25 (a5a.at1 (o := 3) (vs := [(vs r7)]) (nb rfl) rfl)) ?_
   obtain ⟨d1L, h6c, b9q, d7l, h⟩ := h
   obtain ⟨i2q, i2r, h6d, d7l⟩ := d7l
   refine a8 (T9 h6d _ _ _ _ d1L h6c) ?_
   refine a8 B3 ?_
   refine d9 (ld1 (v := (vi b9q.b9)) Tryd.isAgg3 ((a5a.atH d7l).sub (k := 0) (n := 1) (nb rfl))) ?_
   refine a8 (f4 _ _ _ _ _ _) ?_
   try simp only [m4]
   refine a8 (Pu.g fun hb => by have b6 := hb; first | exact (f4 _ _ _ _ _ _) | (simp only [b7 b6]; exact (f4 _ _ _ _ _ _)) | (simp only [d7 b6, b7 b6, b7 hb, l9 b6, f9]; exact (f4 _ _ _ _ _ _))) ?_
   refine a8 (A5 _ _) ?_
   refine j9 (fun b7k => ?_) (fun b7k => ?_)
   ·replace h := h.1 b7k
    refine a8 (f4 _ _ _ _ _ _) ?_
    refine f5 (cap := []) (fun args w => Tryd.call74 args w) ?_
    refine i6 (Fi := []) (Fr := [bx g_2 27 [(vi x0.b9), (vi x0.fOp), (vs u0), (vs r7)], bx g_7 27 [(vi 0), (vi 0), (Value.slice none 0 0), (Value.slice none 0 0)]]) a5a (h) (fun h7o d7g h7p a1U h1w h7q h7r h1x => ?_) (fun _ _ _ _ _ q => q.elim)
    obtain ⟨b5V, rfl, rfl, h⟩ := h1x
    refine k3 (h1w.bring 1) Tryd.sizeOf27 (vs := (d6 b5V)) (cs' := (d6 b5V)) rfl rfl (nb rfl) rfl rfl fun a5e c6P g9D => ?_
    refine t6 Tryd.isAgg27 Tryd.sizeOf27 rfl (c6P.at1 (o := 0) (vs := (d6 b5V)) (nb rfl) rfl) ?_
    exact hR b5V d7g _ c6P.drop.drop h
   ·replace h := h.2 b7k
    exact hx1 _ _ (hj1 a3A _ ((a5a.bring 1).bring 1) h)
  ·replace h := h.2 d7k
   refine a8 (f4 _ _ _ _ _ _) ?_
   refine g8 (fun d7m => ?_) (fun d7m => ?_)
   ·replace h := h.1 d7m
    refine d9 (ldA Tryd.isAgg27 Tryd.sizeOf27 rfl (a5a.at1 (o := 0) (vs := [(vi x0.b9), (vi x0.fOp), (vs u0), (vs r7)]) (nb rfl) rfl)) ?_
    refine f5 (cap := []) (fun args w => Tryd.call76 args w) ?_
    refine i6 (Fi := []) (Fr := [bx g_2 27 [(vi x0.b9), (vi x0.fOp), (vs u0), (vs r7)], bx g_7 27 [(vi 0), (vi 0), (Value.slice none 0 0), (Value.slice none 0 0)]]) a5a (h) (fun h7s d7h h7t b1y h1y h7u h7v h1z => ?_) (fun _ _ _ _ _ q => q.elim)
    obtain ⟨b5W, rfl, rfl, h⟩ := h1z
    refine k3 (h1y.bring 1) Tryd.sizeOf27 (vs := (d6 b5W)) (cs' := (d6 b5W)) rfl rfl (nb rfl) rfl rfl fun h7w e6H h7x => ?_
    refine t6 Tryd.isAgg27 Tryd.sizeOf27 rfl (e6H.at1 (o := 0) (vs := (d6 b5W)) (nb rfl) rfl) ?_
    exact hR b5W d7h _ e6H.drop.drop h
   ·replace h := h.2 d7m
    refine a8 (f4 _ _ _ _ _ _) ?_
    refine g8 (fun d7n => ?_) (fun d7n => ?_)
    ·replace h := h.1 d7n
     refine d9 (ldA Tryd.isAgg27 Tryd.sizeOf27 rfl (a5a.at1 (o := 0) (vs := [(vi x0.b9), (vi x0.fOp), (vs u0), (vs r7)]) (nb rfl) rfl)) ?_
     refine f5 (cap := []) (fun args w => Tryd.call76 args w) ?_
     refine i6 (Fi := []) (Fr := [bx g_2 27 [(vi x0.b9), (vi x0.fOp), (vs u0), (vs r7)], bx g_7 27 [(vi 0), (vi 0), (Value.slice none 0 0), (Value.slice none 0 0)]]) a5a (h) (fun h7y d7i h7z h7A h1A h7B h7C h1B => ?_) (fun _ _ _ _ _ q => q.elim)
     obtain ⟨b5X, rfl, rfl, h⟩ := h1B
     refine k3 (h1A.bring 1) Tryd.sizeOf27 (vs := (d6 b5X)) (cs' := (d6 b5X)) rfl rfl (nb rfl) rfl rfl fun h7D e6I h7E => ?_
     refine t6 Tryd.isAgg27 Tryd.sizeOf27 rfl (e6I.at1 (o := 0) (vs := (d6 b5X)) (nb rfl) rfl) ?_
     exact hR b5X d7i _ e6I.drop.drop h
    ·replace h := h.2 d7n
     exact hx1 _ _ (hj1 a3A _ ((a5a.bring 1).bring 1) h)
theorem b5Y (x0 : d5) {H : Hp} {K : d5 → Hp → Prop} (h : a2t x0 H K) : a2o x0 H K := by
 intro w I
 refine g6z ?_
 refine b5g x0 I (fun r0 H' w' I' hk => ⟨H', _, I', r0, rfl, rfl, hk⟩) h
def a2u (x0 : d5) (H : Hp) (K : d5 → Int → Hp → Prop) : Prop :=
 a6A x0 H (fun (k4 : Int) (a1P : Hp) =>
 (¬ (k4 = 0) →
 K (d5.mk 0 0 (Sl.mk none 0 0) (Sl.mk none 0 0)) k4 a1P) ∧
 (k4 = 0 →
 a2o x0 a1P (fun (K8 : d5) (a0D : Hp) =>
 K K8 0 a0D)))
theorem b5h (x0 : d5) {w0 w : World} {ps0 : Nat → Prop} {H0 H : Hp} {K : d5 → Int → Hp → Prop} {R : Value → World → Prop} {E : Pan} (I : Inv w0 ps0 H0 H [] w) (hR : ∀ (r0 : d5) (r1 : Int) (H' : Hp) (w' : World) (_ : Inv w0 ps0 H0 H' [] w') (_ : K r0 r1 H'), R (Value.tuple #[(Value.agg (d6 r0).toArray), (vi r1)]) w') (h : a2u x0 H K) : F13 (Value.agg (d6 x0).toArray) w R E := by
 unfold a2u at h
 unfold F13
 refine F7 I (cs := (d6 x0)) rfl fun g_2 w_3 I_4 k_5 => ?_
 refine u2 I_4 Tryd.zeroValue27 (cs := [(vi 0), (vi 0), (Value.slice none 0 0), (Value.slice none 0 0)]) rfl fun g_7 w_8 I_9 a6F => ?_
 refine d9 (ldA Tryd.isAgg27 Tryd.sizeOf27 rfl ((I_9.bring 1).at1 (o := 0) (vs := (d6 x0)) (nb rfl) rfl)) ?_
 refine f5 (cap := []) (fun args w => Tryd.call41 args w) ?_
 refine i6 (Fi := []) (Fr := [bx g_7 27 [(vi 0), (vi 0), (Value.slice none 0 0), (Value.slice none 0 0)], bx g_2 27 (d6 x0)]) I_9 (h) (fun d1I a1P d1J m6 a4E c2z d1K b3v => ?_) (fun _ _ _ _ _ q => q.elim)
 obtain ⟨k4, rfl, rfl, h⟩ := b3v
 refine a8 (o4 _ _ _ _ _ _) ?_
 refine a3g (fun a8r => ?_) (fun a8r => ?_)
 ·replace h := h.1 a8r
  refine a8 (c6d ) ?_
  refine k3 a4E Tryd.sizeOf27 (vs := [(vi 0), (vi 0), (Value.slice none 0 0), (Value.slice none 0 0)]) (cs' := [(vi 0), (vi 0), (Value.slice none 0 0), (Value.slice none 0 0)]) rfl rfl (nb rfl) rfl rfl fun o7 X6 a9P => ?_
  refine t6 Tryd.isAgg27 Tryd.sizeOf27 rfl (X6.at1 (o := 0) (vs := [(vi 0), (vi 0), (Value.slice none 0 0), (Value.slice none 0 0)]) (nb rfl) rfl) ?_
  exact hR (d5.mk 0 0 (Sl.mk none 0 0) (Sl.mk none 0 0)) k4 a1P _ X6.drop.drop h
 ·replace h := h.2 a8r
  refine d9 (ldA Tryd.isAgg27 Tryd.sizeOf27 rfl ((a4E.bring 1).at1 (o := 0) (vs := (d6 x0)) (nb rfl) rfl)) ?_
  refine f5 (cap := []) (fun args w => Tryd.call42 args w) ?_
  refine i6 (Fi := []) (Fr := [bx g_7 27 [(vi 0), (vi 0), (Value.slice none 0 0), (Value.slice none 0 0)], bx g_2 27 (d6 x0)]) a4E (h) (fun c9a a0D c5b q8 a2P c9b c4V b2m => ?_) (fun _ _ _ _ _ q => q.elim)
  obtain ⟨K8, rfl, rfl, h⟩ := b2m
  refine k3 a2P Tryd.sizeOf27 (vs := (d6 K8)) (cs' := (d6 K8)) rfl rfl (nb rfl) rfl rfl fun w5 a3u b8M => ?_
  refine t6 Tryd.isAgg27 Tryd.sizeOf27 rfl (a3u.at1 (o := 0) (vs := (d6 K8)) (nb rfl) rfl) ?_
  exact hR K8 0 a0D _ a3u.drop.drop h
theorem b5Z (x0 : d5) {H : Hp} {K : d5 → Int → Hp → Prop} (h : a2u x0 H K) : a0d x0 H K := by
 intro w I
 refine g4Z ?_
 refine b5h x0 I (fun r0 r1 H' w' I' hk => ⟨H', _, I', r0, r1, rfl, rfl, hk⟩) h
def Y7 (H : Hp) (K : Bool → Hp → Prop) : Prop :=
 N1 1 H (fun (s7 : a7) (H_1 : Hp) =>
 N1 2 H_1 (fun (o8 : a7) (P9 : Hp) =>
 ∀ (c2B : Sl) (b8R : Hp), Hle P9 b8R → SlH b8R 4 b8 c2B [s7, o8] → c2B.n ≤ c2B.c →
 ∀ (a7v : Sl) (b6H : Hp), Hle b8R b6H → SlH b6H 4 b8 a7v [(a7.mk 6 0 ⟨#[]⟩ c2B), (a7.mk 2 0 ⟨#[120]⟩ (Sl.mk none 0 0))] → a7v.n ≤ a7v.c →
 a2m (a7.mk 8 0 ⟨#[]⟩ a7v) b6H (fun (B7 : a7) (a9k : Int) (a3y : Hp) =>
 N1 1 a3y (fun (b7C : a7) (c2A : Hp) =>
 N1 2 c2A (fun (a2Q : a7) (a7Y : Hp) =>
 ∀ (c5U : Sl) (d1N : Hp), Hle a7Y d1N → SlH d1N 4 b8 c5U [b7C, a2Q] → c5U.n ≤ c5U.c →
 a0d (d5.mk 3 1 c5U (Sl.mk none 0 0)) d1N (fun (a5F : d5) (a7k : Int) (b3x : Hp) =>
 ∃ a4u : a7, (((((decide (a9k = 0)) && (decide (a7k = 0))) && (decide (B7.b9 = 8))) && (decide ((B7.d8.n : Int) = 2))) = true → (0 : Int) ≤ 0 ∧ (0 : Int) < B7.d8.n ∧ EltH b3x B7.d8 0 4 (b8 a4u)) ∧
 ∃ b7D : a7, ((((((decide (a9k = 0)) && (decide (a7k = 0))) && (decide (B7.b9 = 8))) && (decide ((B7.d8.n : Int) = 2))) && (decide (a4u.b9 = 1))) = true → (0 : Int) ≤ 0 ∧ (0 : Int) < B7.d8.n ∧ EltH b3x B7.d8 0 4 (b8 b7D)) ∧
 K (((((((decide (a9k = 0)) && (decide (a7k = 0))) && (decide (B7.b9 = 8))) && (decide ((B7.d8.n : Int) = 2))) && (decide (a4u.b9 = 1))) && (decide (b7D.g9 = 3))) && (decide (a5F.b9 = 1))) b3x))))))
theorem b0I {w0 w : World} {ps0 : Nat → Prop} {H0 H : Hp} {K : Bool → Hp → Prop} {R : Value → World → Prop} {E : Pan} (I : Inv w0 ps0 H0 H [] w) (hR : ∀ (r0 : Bool) (H' : Hp) (w' : World) (_ : Inv w0 ps0 H0 H' [] w') (_ : K r0 H'), R (Value.bool r0) w') (h : Y7 H K) : F10 w R E := by
 unfold Y7 at h
 unfold F10
 refine f5 (cap := []) (fun args w => Tryd.call36 args w) ?_
 refine i6 (Fi := []) (Fr := []) I (h) (fun v_5 H_1 F_6 w_2 I_3 l_8 k_4 q_7 => ?_) (fun _ _ _ _ _ q => q.elim)
 obtain ⟨s7, rfl, rfl, h⟩ := q_7
 refine f5 (cap := []) (fun args w => Tryd.call36 args w) ?_
 refine i6 (Fi := []) (Fr := []) I_3 (h) (fun b6s P9 c4X K6 q5 b2l a8S a9O => ?_) (fun _ _ _ _ _ q => q.elim)
 obtain ⟨o8, rfl, rfl, h⟩ := a9O
 refine a5R (e := 24) (c := b8) (xs := [s7, o8]) q5 (c4x _ _ _ _ _ _ _ _ _ _ _ _) rfl rfl P7 P8 (nb rfl) fun c2B c5f r9 b0a b8L f9T => ?_
 refine a8 (a7N _ _ _ _) ?_
 refine a8 (c6C _ _) ?_
 obtain ⟨b8R, d4K, c9m, a8a, e1N⟩ := Inv.freezeC b8L b0a (by decide)
 replace h := h c2B b8R c9m a8a e1N
 refine a5R (e := 24) (c := b8) (xs := [(a7.mk 6 0 ⟨#[]⟩ c2B), (a7.mk 2 0 ⟨#[120]⟩ (Sl.mk none 0 0))]) d4K (c4x _ _ _ _ _ _ _ _ _ _ _ _) rfl rfl P7 P8 (nb rfl) fun a7v b0P z2 a9Q a7w c5h => ?_
 refine a8 (a7N _ _ _ _) ?_
 obtain ⟨b6H, b4X, d6F, c5Q, a5V⟩ := Inv.freezeC a7w a9Q (by decide)
 replace h := h a7v b6H d6F c5Q a5V
 refine f5 (cap := []) (fun args w => Tryd.call11 args w) ?_
 refine i6 (Fi := []) (Fr := []) b4X (h) (fun e2i a3y e2j D9 b4U e2k e2l c1N => ?_) (fun _ _ _ _ _ q => q.elim)
 obtain ⟨B7, a9k, rfl, rfl, h⟩ := c1N
 refine a8 (i4 _ _ _ rfl) ?_
 refine a8 (i4 _ _ (vi a9k) rfl) ?_
 refine u2 b4U Tryd.zeroValue24 (cs := [(vi 0), (vi 0), (Value.string ⟨#[]⟩), (Value.slice none 0 0)]) rfl fun e5x I7 b8K f9Q => ?_
 refine k3 b8K Tryd.sizeOf24 (vs := (b8 B7)) (cs' := (b8 B7)) rfl rfl (nb rfl) rfl rfl fun c1X b2O c1Y => ?_
 refine f5 (cap := []) (fun args w => Tryd.call36 args w) ?_
 refine i6 (Fi := []) (Fr := [bx e5x 24 (b8 B7)]) b2O (h) (fun h5Y c2A h5Z b8N d1M h6a h6b e5v => ?_) (fun _ _ _ _ _ q => q.elim)
 obtain ⟨b7C, rfl, rfl, h⟩ := e5v
 refine f5 (cap := []) (fun args w => Tryd.call36 args w) ?_
 refine i6 (Fi := []) (Fr := [bx e5x 24 (b8 B7)]) d1M (h) (fun c4Z a7Y e1u U1 b8D e1v e1w c1q => ?_) (fun _ _ _ _ _ q => q.elim)
 obtain ⟨a2Q, rfl, rfl, h⟩ := c1q
 refine a5R (e := 24) (c := b8) (xs := [b7C, a2Q]) b8D (c4x _ _ _ _ _ _ _ _ _ _ _ _) rfl rfl P7 P8 (nb rfl) fun c5U i2s g6p h6e e5y h6f => ?_
 refine a8 (c2M _ _ _ _ _) ?_
 obtain ⟨d1N, b3y, h6g, d0R, c2m⟩ := Inv.freezeC e5y h6e (by decide)
 replace h := h c5U d1N h6g d0R c2m
 refine f5 (cap := []) (fun args w => Tryd.call13 args w) ?_
 refine i6 (Fi := []) (Fr := [bx e5x 24 (b8 B7)]) b3y (h) (fun h6h b3x h6i c5O c2C e1l h6j e5z => ?_) (fun _ _ _ _ _ q => q.elim)
 obtain ⟨a5F, a7k, rfl, rfl, h⟩ := e5z
 refine a8 (i4 _ _ _ rfl) ?_
 refine a8 (i4 _ _ (vi a7k) rfl) ?_
 refine u2 c2C Tryd.zeroValue27 (cs := [(vi 0), (vi 0), (Value.slice none 0 0), (Value.slice none 0 0)]) rfl fun h1C b9Z h1D h7F => ?_
 refine k3 h1D Tryd.sizeOf27 (vs := (d6 a5F)) (cs' := (d6 a5F)) rfl rfl (nb rfl) rfl rfl fun a4e a1u h7G => ?_
 refine a8 (f4 _ _ _ _ _ _) ?_
 try simp only [m4]
 refine a8 (Pu.g fun hb => by have b6 := hb; first | exact (f4 _ _ _ _ _ _) | (simp only [b7 b6]; exact (f4 _ _ _ _ _ _)) | (simp only [d7 b6, b7 b6, b7 hb, f8 b6, f9]; exact (f4 _ _ _ _ _ _))) ?_
 refine a8 (k9 _ _) ?_
 refine a8 (Pu.g fun hb => by have b6 := hb; first | exact m9 | (simp only [d7 b6, b7 b6, b7 hb, m8 b6]; exact m9) | (simp only [d7 b6, b7 b6, b7 hb, f8 b6, f9]; exact m9)) ?_
 refine d9 (Ld.g fun hb => by have b6 := hb; first | exact (ld1 Tryd.isAgg3 ((a1u.bring 1).at1 (o := 0) (vs := [(vi B7.b9)]) (nb rfl) rfl)) | (simp only [b7 b6]; exact (ld1 Tryd.isAgg3 ((a1u.bring 1).at1 (o := 0) (vs := [(vi B7.b9)]) (nb rfl) rfl))) | (simp only [d7 b6, b7 b6, b7 hb, f8 b6, f9]; exact (ld1 Tryd.isAgg3 ((a1u.bring 1).at1 (o := 0) (vs := [(vi B7.b9)]) (nb rfl) rfl)))) ?_
 refine a8 (Pu.g fun hb => by have b6 := hb; first | exact (f4 _ _ _ _ _ _) | (simp only [b7 b6]; exact (f4 _ _ _ _ _ _)) | (simp only [d7 b6, b7 b6, b7 hb, f8 b6, f9]; exact (f4 _ _ _ _ _ _))) ?_
 refine a8 (k9 _ _) ?_
 refine a8 (Pu.g fun hb => by have b6 := hb; first | exact i8 | (simp only [d7 b6, b7 b6, b7 hb, m8 b6]; exact i8) | (simp only [d7 b6, b7 b6, b7 hb, f8 b6, f9]; exact i8)) ?_
 refine d9 (Ld.g fun hb => by have b6 := hb; first | exact (ld1 Tryd.isAgg22 ((a1u.bring 1).at1 (o := 3) (vs := [(vs B7.d8)]) (nb rfl) rfl)) | (simp only [b7 b6]; exact (ld1 Tryd.isAgg22 ((a1u.bring 1).at1 (o := 3) (vs := [(vs B7.d8)]) (nb rfl) rfl))) | (simp only [d7 b6, b7 b6, b7 hb, f8 b6, f9]; exact (ld1 Tryd.isAgg22 ((a1u.bring 1).at1 (o := 3) (vs := [(vs B7.d8)]) (nb rfl) rfl)))) ?_
 refine a8 (Pu.g fun hb => by have b6 := hb; first | exact (q6 _ _ _) | (simp only [b7 b6]; exact (q6 _ _ _)) | (simp only [d7 b6, b7 b6, b7 hb, f8 b6, f9]; exact (q6 _ _ _))) ?_
 refine a8 (Pu.g fun hb => by have b6 := hb; first | exact (f4 _ _ _ _ _ _) | (simp only [b7 b6]; exact (f4 _ _ _ _ _ _)) | (simp only [d7 b6, b7 b6, b7 hb, f8 b6, f9]; exact (f4 _ _ _ _ _ _))) ?_
 refine a8 (k9 _ _) ?_
 refine a8 (Pu.g fun hb => by have b6 := hb; first | exact i8 | (simp only [d7 b6, b7 b6, b7 hb, m8 b6]; exact i8) | (simp only [d7 b6, b7 b6, b7 hb, f8 b6, f9]; exact i8)) ?_
 refine d9 (Ld.g fun hb => by have b6 := hb; first | exact (ld1 Tryd.isAgg22 ((a1u.bring 1).at1 (o := 3) (vs := [(vs B7.d8)]) (nb rfl) rfl)) | (simp only [b7 b6]; exact (ld1 Tryd.isAgg22 ((a1u.bring 1).at1 (o := 3) (vs := [(vs B7.d8)]) (nb rfl) rfl))) | (simp only [d7 b6, b7 b6, b7 hb, f8 b6, f9]; exact (ld1 Tryd.isAgg22 ((a1u.bring 1).at1 (o := 3) (vs := [(vs B7.d8)]) (nb rfl) rfl)))) ?_
 obtain ⟨a4u, a3M, h⟩ := h
 obtain ⟨h1o, h1p, a3M⟩ := b0p a3M
 refine a8 (Pu.g fun hb => by have b6 := hb; first | exact (m7 (a3M hb).2.2.1 _ _ _ _ (a3M hb).1 (a3M hb).2.1) | (simp only [b7 b6]; exact (m7 (a3M hb).2.2.1 _ _ _ _ (a3M hb).1 (a3M hb).2.1)) | (simp only [d7 b6, b7 b6, b7 hb, f8 b6, f9]; exact (m7 (a3M hb).2.2.1 _ _ _ _ (a3M hb).1 (a3M hb).2.1))) ?_
 refine a8 (Pu.g fun hb => by have b6 := hb; first | exact m9 | (simp only [b7 b6]; exact m9) | (simp only [d7 b6, b7 b6, b7 hb, f8 b6, f9]; exact m9)) ?_
 refine d9 (Ld.g fun hb => by have b6 := hb; first | exact (ld1 (v := (vi a4u.b9)) Tryd.isAgg3 ((a1u.atH (a3M hb).2.2.2).sub (k := 0) (n := 1) (nb rfl))) | (simp only [b7 b6]; exact (ld1 (v := (vi a4u.b9)) Tryd.isAgg3 ((a1u.atH (a3M hb).2.2.2).sub (k := 0) (n := 1) (nb rfl)))) | (simp only [d7 b6, b7 b6, b7 hb, f8 b6, f9]; exact (ld1 (v := (vi a4u.b9)) Tryd.isAgg3 ((a1u.atH (a3M hb).2.2.2).sub (k := 0) (n := 1) (nb rfl))))) ?_
 refine a8 (Pu.g fun hb => by have b6 := hb; first | exact (f4 _ _ _ _ _ _) | (simp only [b7 b6]; exact (f4 _ _ _ _ _ _)) | (simp only [d7 b6, b7 b6, b7 hb, f8 b6, f9]; exact (f4 _ _ _ _ _ _))) ?_
 refine a8 (k9 _ _) ?_
 refine a8 (Pu.g fun hb => by have b6 := hb; first | exact i8 | (simp only [d7 b6, b7 b6, b7 hb, m8 b6]; exact i8) | (simp only [d7 b6, b7 b6, b7 hb, f8 b6, f9]; exact i8)) ?_
 refine d9 (Ld.g fun hb => by have b6 := hb; first | exact (ld1 Tryd.isAgg22 ((a1u.bring 1).at1 (o := 3) (vs := [(vs B7.d8)]) (nb rfl) rfl)) | (simp only [b7 b6]; exact (ld1 Tryd.isAgg22 ((a1u.bring 1).at1 (o := 3) (vs := [(vs B7.d8)]) (nb rfl) rfl))) | (simp only [d7 b6, b7 b6, b7 hb, f8 b6, f9]; exact (ld1 Tryd.isAgg22 ((a1u.bring 1).at1 (o := 3) (vs := [(vs B7.d8)]) (nb rfl) rfl)))) ?_
 obtain ⟨b7D, a6d, h⟩ := h
 obtain ⟨h7H, h7I, a6d⟩ := b0p a6d
 refine a8 (Pu.g fun hb => by have b6 := hb; first | exact (m7 (a6d hb).2.2.1 _ _ _ _ (a6d hb).1 (a6d hb).2.1) | (simp only [b7 b6]; exact (m7 (a6d hb).2.2.1 _ _ _ _ (a6d hb).1 (a6d hb).2.1)) | (simp only [d7 b6, b7 b6, b7 hb, f8 b6, f9]; exact (m7 (a6d hb).2.2.1 _ _ _ _ (a6d hb).1 (a6d hb).2.1))) ?_
 refine a8 (Pu.g fun hb => by have b6 := hb; first | exact B4 | (simp only [b7 b6]; exact B4) | (simp only [d7 b6, b7 b6, b7 hb, f8 b6, f9]; exact B4)) ?_
 refine d9 (Ld.g fun hb => by have b6 := hb; first | exact (ld1 (v := (vi b7D.g9)) Tryd.isAgg2 ((a1u.atH (a6d hb).2.2.2).sub (k := 1) (n := 1) (nb rfl))) | (simp only [b7 b6]; exact (ld1 (v := (vi b7D.g9)) Tryd.isAgg2 ((a1u.atH (a6d hb).2.2.2).sub (k := 1) (n := 1) (nb rfl)))) | (simp only [d7 b6, b7 b6, b7 hb, f8 b6, f9]; exact (ld1 (v := (vi b7D.g9)) Tryd.isAgg2 ((a1u.atH (a6d hb).2.2.2).sub (k := 1) (n := 1) (nb rfl))))) ?_
 refine a8 (Pu.g fun hb => by have b6 := hb; first | exact (f4 _ _ _ _ _ _) | (simp only [b7 b6]; exact (f4 _ _ _ _ _ _)) | (simp only [d7 b6, b7 b6, b7 hb, f8 b6, f9]; exact (f4 _ _ _ _ _ _))) ?_
 refine a8 (k9 _ _) ?_
 refine a8 (Pu.g fun hb => by have b6 := hb; first | exact B3 | (simp only [d7 b6, b7 b6, b7 hb, m8 b6]; exact B3) | (simp only [d7 b6, b7 b6, b7 hb, f8 b6, f9]; exact B3)) ?_
 refine d9 (Ld.g fun hb => by have b6 := hb; first | exact (ld1 Tryd.isAgg3 (a1u.at1 (o := 0) (vs := [(vi a5F.b9)]) (nb rfl) rfl)) | (simp only [b7 b6]; exact (ld1 Tryd.isAgg3 (a1u.at1 (o := 0) (vs := [(vi a5F.b9)]) (nb rfl) rfl))) | (simp only [d7 b6, b7 b6, b7 hb, f8 b6, f9]; exact (ld1 Tryd.isAgg3 (a1u.at1 (o := 0) (vs := [(vi a5F.b9)]) (nb rfl) rfl)))) ?_
 refine a8 (Pu.g fun hb => by have b6 := hb; first | exact (f4 _ _ _ _ _ _) | (simp only [b7 b6]; exact (f4 _ _ _ _ _ _)) | (simp only [d7 b6, b7 b6, b7 hb, f8 b6, f9]; exact (f4 _ _ _ _ _ _))) ?_
 refine a8 (k9 _ _) ?_
 exact hR (((((((decide (a9k = 0)) && (decide (a7k = 0))) && (decide (B7.b9 = 8))) && (decide ((B7.d8.n : Int) = 2))) && (decide (a4u.b9 = 1))) && (decide (b7D.g9 = 3))) && (decide (a5F.b9 = 1))) b3x _ a1u.drop.drop h
theorem b0V {H : Hp} {K : Bool → Hp → Prop} (h : Y7 H K) : a2y H K := by
 intro w I
 refine g4T ?_
 refine b0I I (fun r0 H' w' I' hk => ⟨H', _, I', r0, rfl, rfl, hk⟩) h
def a0Y (x0 : a7) (H : Hp) (K : Int → Bool → Hp → Prop) : Prop :=
 (x0.b9 = 1 →
 K x0.g9 true H) ∧
 (¬ (x0.b9 = 1) →
 ∃ x_6 : a7, ((decide (x0.b9 = 5)) = true → (0 : Int) ≤ 0 ∧ (0 : Int) < x0.d8.n ∧ EltH H x0.d8 0 4 (b8 x_6)) ∧
 (((decide (x0.b9 = 5)) && (decide (x_6.b9 = 1))) = true →
 (0 : Int) ≤ 0 ∧ (0 : Int) < x0.d8.n ∧ ∃ X7 : a7, EltH H x0.d8 0 4 (b8 X7) ∧
 K (IntKind.wrap .i64 (0 - X7.g9)) true H) ∧
 (((decide (x0.b9 = 5)) && (decide (x_6.b9 = 1))) = false →
 K 0 false H))
theorem a9o (x0 : a7) {w0 w : World} {ps0 : Nat → Prop} {H0 H : Hp} {K : Int → Bool → Hp → Prop} {R : Value → World → Prop} {E : Pan} (I : Inv w0 ps0 H0 H [] w) (hR : ∀ (r0 : Int) (r1 : Bool) (H' : Hp) (w' : World) (_ : Inv w0 ps0 H0 H' [] w') (_ : K r0 r1 H'), R (Value.tuple #[(vi r0), (Value.bool r1)]) w') (h : a0Y x0 H K) : F69 (Value.agg (b8 x0).toArray) w R E := by
 unfold a0Y at h
 unfold F69
 refine F7 I (cs := (b8 x0)) rfl fun g_2 w_3 I_4 k_5 => ?_
 refine a8 m9 ?_
 refine d9 (ld1 Tryd.isAgg3 (I_4.at1 (o := 0) (vs := [(vi x0.b9)]) (nb rfl) rfl)) ?_
 refine a8 (f4 _ _ _ _ _ _) ?_
 refine g8 (fun a5w => ?_) (fun a5w => ?_)
 ·replace h := h.1 a5w
  refine a8 B4 ?_
  refine d9 (ld1 Tryd.isAgg2 (I_4.at1 (o := 1) (vs := [(vi x0.g9)]) (nb rfl) rfl)) ?_
  exact hR x0.g9 true H _ I_4.drop h
 ·replace h := h.2 a5w
  refine a8 m9 ?_
  refine d9 (ld1 Tryd.isAgg3 (I_4.at1 (o := 0) (vs := [(vi x0.b9)]) (nb rfl) rfl)) ?_
  refine a8 (f4 _ _ _ _ _ _) ?_
  refine a8 (Pu.g fun hb => by have b6 := hb; first | exact i8 | (simp only [d7 b6, b7 b6, b7 hb, m8 b6]; exact i8) | (simp only [d7 b6, b7 b6, b7 hb, f8 b6, f9]; exact i8)) ?_
  refine d9 (Ld.g fun hb => by have b6 := hb; first | exact (ld1 Tryd.isAgg22 (I_4.at1 (o := 3) (vs := [(vs x0.d8)]) (nb rfl) rfl)) | (simp only [b7 b6]; exact (ld1 Tryd.isAgg22 (I_4.at1 (o := 3) (vs := [(vs x0.d8)]) (nb rfl) rfl))) | (simp only [d7 b6, b7 b6, b7 hb, f8 b6, f9]; exact (ld1 Tryd.isAgg22 (I_4.at1 (o := 3) (vs := [(vs x0.d8)]) (nb rfl) rfl)))) ?_
  obtain ⟨x_6, a0S, h⟩ := h
  obtain ⟨g_7, o_8, a0S⟩ := b0p a0S
  refine a8 (Pu.g fun hb => by have b6 := hb; first | exact (m7 (a0S hb).2.2.1 _ _ _ _ (a0S hb).1 (a0S hb).2.1) | (simp only [b7 b6]; exact (m7 (a0S hb).2.2.1 _ _ _ _ (a0S hb).1 (a0S hb).2.1)) | (simp only [d7 b6, b7 b6, b7 hb, f8 b6, f9]; exact (m7 (a0S hb).2.2.1 _ _ _ _ (a0S hb).1 (a0S hb).2.1))) ?_
  refine a8 (Pu.g fun hb => by have b6 := hb; first | exact m9 | (simp only [b7 b6]; exact m9) | (simp only [d7 b6, b7 b6, b7 hb, f8 b6, f9]; exact m9)) ?_
  refine d9 (Ld.g fun hb => by have b6 := hb; first | exact (ld1 (v := (vi x_6.b9)) Tryd.isAgg3 ((I_4.atH (a0S hb).2.2.2).sub (k := 0) (n := 1) (nb rfl))) | (simp only [b7 b6]; exact (ld1 (v := (vi x_6.b9)) Tryd.isAgg3 ((I_4.atH (a0S hb).2.2.2).sub (k := 0) (n := 1) (nb rfl)))) | (simp only [d7 b6, b7 b6, b7 hb, f8 b6, f9]; exact (ld1 (v := (vi x_6.b9)) Tryd.isAgg3 ((I_4.atH (a0S hb).2.2.2).sub (k := 0) (n := 1) (nb rfl))))) ?_
  refine a8 (Pu.g fun hb => by have b6 := hb; first | exact (f4 _ _ _ _ _ _) | (simp only [b7 b6]; exact (f4 _ _ _ _ _ _)) | (simp only [d7 b6, b7 b6, b7 hb, f8 b6, f9]; exact (f4 _ _ _ _ _ _))) ?_
  refine a8 (k9 _ _) ?_
  refine j9 (fun a3x => ?_) (fun a3x => ?_)
  ·replace h := h.1 a3x
   refine a8 i8 ?_
   refine d9 (ld1 Tryd.isAgg22 (I_4.at1 (o := 3) (vs := [(vs x0.d8)]) (nb rfl) rfl)) ?_
   obtain ⟨a9Y, a9Z, X7, a1M, h⟩ := h
   obtain ⟨d4F, d4G, b6R, a1M⟩ := a1M
   refine a8 (m7 b6R _ _ _ _ a9Y a9Z) ?_
   refine a8 B4 ?_
   refine d9 (ld1 (v := (vi X7.g9)) Tryd.isAgg2 ((I_4.atH a1M).sub (k := 1) (n := 1) (nb rfl))) ?_
   refine a8 (b5k _ _) ?_
   exact hR (IntKind.wrap .i64 (0 - X7.g9)) true H _ I_4.drop h
  ·replace h := h.2 a3x
   exact hR 0 false H _ I_4.drop h
theorem a9D (x0 : a7) {H : Hp} {K : Int → Bool → Hp → Prop} (h : a0Y x0 H K) : B2 x0 H K := by
 intro w I
 refine g7Q ?_
 refine a9o x0 I (fun r0 r1 H' w' I' hk => ⟨H', _, I', r0, r1, rfl, rfl, hk⟩) h
def a1v (x0 : a7) (x1 : Int) (H : Hp) (K : Bool → Hp → Prop) : Prop :=
 B2 x0 H (fun (T2 : Int) (a5Z : Bool) (H_6 : Hp) =>
 K (a5Z && (decide (T2 = x1))) H_6)
theorem b3z (x0 : a7) (x1 : Int) {w0 w : World} {ps0 : Nat → Prop} {H0 H : Hp} {K : Bool → Hp → Prop} {R : Value → World → Prop} {E : Pan} (I : Inv w0 ps0 H0 H [] w) (hR : ∀ (r0 : Bool) (H' : Hp) (w' : World) (_ : Inv w0 ps0 H0 H' [] w') (_ : K r0 H'), R (Value.bool r0) w') (h : a1v x0 x1 H K) : F72 (Value.agg (b8 x0).toArray) (vi x1) w R E := by
 unfold a1v at h
 unfold F72
 refine F7 I (cs := (b8 x0)) rfl fun g_2 w_3 I_4 k_5 => ?_
 refine d9 (ldA Tryd.isAgg24 Tryd.sizeOf24 rfl (I_4.at1 (o := 0) (vs := (b8 x0)) (nb rfl) rfl)) ?_
 refine f5 (cap := []) (fun args w => Tryd.call69 args w) ?_
 refine i6 (Fi := []) (Fr := [bx g_2 24 (b8 x0)]) I_4 (h) (fun c1t H_6 b8E w_7 I_8 c1u k_9 a7Z => ?_) (fun _ _ _ _ _ q => q.elim)
 obtain ⟨T2, a5Z, rfl, rfl, h⟩ := a7Z
 refine a8 (i4 _ _ (vi T2) rfl) ?_
 refine a8 (i4 _ _ (Value.bool a5Z) rfl) ?_
 try simp only [m4]
 try simp only [m4, F8, P1, M9, G2, P5, P2, P3, P4, P6]
 refine a8 (Pu.g fun hb => by have b6 := hb; first | exact (f4 _ _ _ _ _ _) | (simp only [b7 b6]; exact (f4 _ _ _ _ _ _)) | (simp only [d7 b6, b7 b6, b7 hb, f8 b6, f9]; exact (f4 _ _ _ _ _ _))) ?_
 refine a8 (k9 _ _) ?_
 exact hR (a5Z && (decide (T2 = x1))) H_6 _ I_8.drop h
theorem b4a (x0 : a7) (x1 : Int) {H : Hp} {K : Bool → Hp → Prop} (h : a1v x0 x1 H K) : p7 x0 x1 H K := by
 intro w I
 refine g7V ?_
 refine b3z x0 x1 I (fun r0 H' w' I' hk => ⟨H', _, I', r0, rfl, rfl, hk⟩) h
def Y8 (x0 : Int) (H : Hp) (K : a7 → Hp → Prop) : Prop :=
 (0 ≤ x0 →
 K (a7.mk 1 x0 ⟨#[]⟩ (Sl.mk none 0 0)) H) ∧
 (¬ (0 ≤ x0) →
 ∀ (b5i : Sl) (F4 : Hp), Hle H F4 → SlH F4 4 b8 b5i [(a7.mk 1 (IntKind.wrap .i64 (0 - x0)) ⟨#[]⟩ (Sl.mk none 0 0))] → b5i.n ≤ b5i.c →
 K (a7.mk 5 0 ⟨#[]⟩ b5i) F4)
theorem b0J (x0 : Int) {w0 w : World} {ps0 : Nat → Prop} {H0 H : Hp} {K : a7 → Hp → Prop} {R : Value → World → Prop} {E : Pan} (I : Inv w0 ps0 H0 H [] w) (hR : ∀ (r0 : a7) (H' : Hp) (w' : World) (_ : Inv w0 ps0 H0 H' [] w') (_ : K r0 H'), R (Value.agg (b8 r0).toArray) w') (h : Y8 x0 H K) : F70 (vi x0) w R E := by
 unfold Y8 at h
 unfold F70
 refine u2 I Tryd.zeroValue24 (cs := [(vi 0), (vi 0), (Value.string ⟨#[]⟩), (Value.slice none 0 0)]) rfl fun g_2 w_3 I_4 k_5 => ?_
 refine a8 (a0y _ _ _ _ _ _) ?_
 refine g8 (fun a8c => ?_) (fun a8c => ?_)
 ·replace h := h.1 a8c
  refine a8 (a5K _ _) ?_
  refine k3 I_4 Tryd.sizeOf24 (vs := [(vi 1), (vi x0), (Value.string ⟨#[]⟩), (Value.slice none 0 0)]) (cs' := [(vi 1), (vi x0), (Value.string ⟨#[]⟩), (Value.slice none 0 0)]) rfl rfl (nb rfl) rfl rfl fun w_6 I_7 k_8 => ?_
  refine t6 Tryd.isAgg24 Tryd.sizeOf24 rfl (I_7.at1 (o := 0) (vs := [(vi 1), (vi x0), (Value.string ⟨#[]⟩), (Value.slice none 0 0)]) (nb rfl) rfl) ?_
  exact hR (a7.mk 1 x0 ⟨#[]⟩ (Sl.mk none 0 0)) H _ I_7.drop h
 ·replace h := h.2 a8c
  refine a8 (b5k _ _) ?_
  refine a8 (a5K _ _) ?_
  refine a5R (e := 24) (c := b8) (xs := [(a7.mk 1 (IntKind.wrap .i64 (0 - x0)) ⟨#[]⟩ (Sl.mk none 0 0))]) I_4 (b5m _ _ _ _ _ _) rfl rfl P7 P8 (nb rfl) fun b5i b8E m6 h6k J7 a2T => ?_
  refine a8 (a7N _ _ _ _) ?_
  refine k3 (J7.bring 1) Tryd.sizeOf24 (vs := [(vi 5), (vi 0), (Value.string ⟨#[]⟩), (vs b5i)]) (cs' := [(vi 5), (vi 0), (Value.string ⟨#[]⟩), (vs b5i)]) rfl rfl (nb rfl) rfl rfl fun o5 b4N e1A => ?_
  refine t6 Tryd.isAgg24 Tryd.sizeOf24 rfl (b4N.at1 (o := 0) (vs := [(vi 5), (vi 0), (Value.string ⟨#[]⟩), (vs b5i)]) (nb rfl) rfl) ?_
  obtain ⟨F4, b0N, e3l, c9G, b0a⟩ := Inv.freezeC (b4N.bring 1) h6k (by decide)
  replace h := h b5i F4 e3l c9G b0a
  exact hR (a7.mk 5 0 ⟨#[]⟩ b5i) F4 _ b0N.drop h
theorem b0W (x0 : Int) {H : Hp} {K : a7 → Hp → Prop} (h : Y8 x0 H K) : Y2 x0 H K := by
 intro w I
 refine g7T ?_
 refine b0J x0 I (fun r0 H' w' I' hk => ⟨H', _, I', r0, rfl, rfl, hk⟩) h
def I1 (cr_11j3 : a7) (cr_6j3 : a7) (cr_1j3 : a7) (H : Hp) (K : a7 → Hp → Prop) : Prop :=
 ∃ c0o : a7, ((decide (cr_11j3.b9 = 6)) = true → (0 : Int) ≤ 1 ∧ (1 : Int) < cr_11j3.d8.n ∧ EltH H cr_11j3.d8 1 4 (b8 c0o)) ∧
 TG ((decide (cr_11j3.b9 = 6)) = true) (p7 c0o 0 H) false H (fun (a9p : Bool) (a3e : Hp) =>
 (((decide (cr_11j3.b9 = 6)) && a9p) = true →
 (0 : Int) ≤ 0 ∧ (0 : Int) < cr_11j3.d8.n ∧ ∃ a9q : a7, EltH a3e cr_11j3.d8 0 4 (b8 a9q) ∧
 K a9q a3e) ∧
 (((decide (cr_11j3.b9 = 6)) && a9p) = false →
 ∃ b1D : a7, ((decide (cr_11j3.b9 = 6)) = true → (0 : Int) ≤ 0 ∧ (0 : Int) < cr_11j3.d8.n ∧ EltH a3e cr_11j3.d8 0 4 (b8 b1D)) ∧
 TG ((decide (cr_11j3.b9 = 6)) = true) (p7 b1D 0 a3e) false a3e (fun (a5P : Bool) (Y9 : Hp) =>
 (((decide (cr_11j3.b9 = 6)) && a5P) = true →
 (0 : Int) ≤ 1 ∧ (1 : Int) < cr_11j3.d8.n ∧ ∃ a6e : a7, EltH Y9 cr_11j3.d8 1 4 (b8 a6e) ∧
 K a6e Y9) ∧
 (((decide (cr_11j3.b9 = 6)) && a5P) = false →
 ∃ a7T : a7, ((decide (cr_11j3.b9 = 7)) = true → (0 : Int) ≤ 1 ∧ (1 : Int) < cr_11j3.d8.n ∧ EltH Y9 cr_11j3.d8 1 4 (b8 a7T)) ∧
 TG ((decide (cr_11j3.b9 = 7)) = true) (p7 a7T 0 Y9) false Y9 (fun (a3B : Bool) (P0 : Hp) =>
 (((decide (cr_11j3.b9 = 7)) && a3B) = true →
 (0 : Int) ≤ 0 ∧ (0 : Int) < cr_11j3.d8.n ∧ ∃ a4v : a7, EltH P0 cr_11j3.d8 0 4 (b8 a4v) ∧
 K a4v P0) ∧
 (((decide (cr_11j3.b9 = 7)) && a3B) = false →
 ∃ a5G : a7, (((decide (cr_11j3.b9 = 8)) || (decide (cr_11j3.b9 = 9))) = true → (0 : Int) ≤ 1 ∧ (1 : Int) < cr_11j3.d8.n ∧ EltH P0 cr_11j3.d8 1 4 (b8 a5G)) ∧
 TG (((decide (cr_11j3.b9 = 8)) || (decide (cr_11j3.b9 = 9))) = true) (p7 a5G 1 P0) false P0 (fun (a1z : Bool) (I9 : Hp) =>
 ((((decide (cr_11j3.b9 = 8)) || (decide (cr_11j3.b9 = 9))) && a1z) = true →
 (0 : Int) ≤ 0 ∧ (0 : Int) < cr_11j3.d8.n ∧ ∃ a2v : a7, EltH I9 cr_11j3.d8 0 4 (b8 a2v) ∧
 K a2v I9) ∧
 ((((decide (cr_11j3.b9 = 8)) || (decide (cr_11j3.b9 = 9))) && a1z) = false →
 ∃ a3N : a7, ((decide (cr_11j3.b9 = 8)) = true → (0 : Int) ≤ 0 ∧ (0 : Int) < cr_11j3.d8.n ∧ EltH I9 cr_11j3.d8 0 4 (b8 a3N)) ∧
 TG ((decide (cr_11j3.b9 = 8)) = true) (p7 a3N 1 I9) false I9 (fun (X9 : Bool) (R1 : Hp) =>
 (((decide (cr_11j3.b9 = 8)) && X9) = true →
 (0 : Int) ≤ 1 ∧ (1 : Int) < cr_11j3.d8.n ∧ ∃ a0U : a7, EltH R1 cr_11j3.d8 1 4 (b8 a0U) ∧
 K a0U R1) ∧
 (((decide (cr_11j3.b9 = 8)) && X9) = false →
 K cr_11j3 R1))))))))))
def I2 (h6l : Int) (b9c : Bool) (a6M : Int) (cr_11j2 : a7) (cr_6j2 : a7) (cr_1j2 : a7) (H : Hp) (K : a7 → Hp → Prop) : Prop :=
 (b9c = true →
 a4A cr_11j2.b9 h6l a6M H (fun (b9r : Int) (c4f : Int) (c7o : Hp) =>
 (((decide (c4f = 0)) && (!decide (b9r = (-9223372036854775808)))) = true →
 Y2 b9r c7o (fun (b6a : a7) (d7o : Hp) =>
 K b6a d7o)) ∧
 (((decide (c4f = 0)) && (!decide (b9r = (-9223372036854775808)))) = false →
 I1 cr_11j2 cr_6j2 cr_1j2 c7o K))) ∧
 (b9c = false →
 I1 cr_11j2 cr_6j2 cr_1j2 H K)
def V5 (cr_11j1_0 : Int) (cr_11j1_1 : Int) (cr_11j1_2 : ByteArray) (ccr_11j1_3 : (List a7)) (cr_6j1 : a7) (cr_1j1 : a7) (H : Hp) (K : a7 → Hp → Prop) : Prop :=
 ∀ (scr_11j1_3 : Sl) (b5j : Hp), Hle H b5j → SlH b5j 4 b8 scr_11j1_3 ccr_11j1_3 → scr_11j1_3.n ≤ scr_11j1_3.c →
 B2 (a7.mk cr_11j1_0 cr_11j1_1 cr_11j1_2 scr_11j1_3) b5j (fun (d7p : Int) (c7p : Bool) (c5V : Hp) =>
 (c7p = true →
 Y2 d7p c5V (fun (c0p : a7) (e5A : Hp) =>
 K c0p e5A)) ∧
 (c7p = false →
 (cr_11j1_0 < 5 →
 K (a7.mk cr_11j1_0 cr_11j1_1 cr_11j1_2 scr_11j1_3) c5V) ∧
 (¬ (cr_11j1_0 < 5) →
 (0 : Int) ≤ 0 ∧ (0 : Int) < scr_11j1_3.n ∧ ∃ d7q : a7, EltH c5V scr_11j1_3 0 4 (b8 d7q) ∧
 B2 d7q c5V (fun (a5F : Int) (a7k : Bool) (b3x : Hp) =>
 ((scr_11j1_3.n : Int) = 2 →
 (0 : Int) ≤ 1 ∧ (1 : Int) < scr_11j1_3.n ∧ ∃ d7r : a7, EltH b3x scr_11j1_3 1 4 (b8 d7r) ∧
 B2 d7r b3x (fun (c4g : Int) (c4h : Bool) (d7s : Hp) =>
 I2 a5F (a7k && c4h) c4g (a7.mk cr_11j1_0 cr_11j1_1 cr_11j1_2 scr_11j1_3) cr_6j1 cr_1j1 d7s K)) ∧
 (¬ ((scr_11j1_3.n : Int) = 2) →
 I2 a5F a7k 0 (a7.mk cr_11j1_0 cr_11j1_1 cr_11j1_2 scr_11j1_3) cr_6j1 cr_1j1 b3x K)))))
def V6 (cr_1l4 : a7) (a7C : Int) (cr_11l4_0 : Int) (cr_11l4_1 : Int) (cr_11l4_2 : ByteArray) (ccr_11l4_3 : (List a7)) (cr_6l4 : a7) (H : Hp) (n4 : (Int × Int × Int × ByteArray × (List a7) × a7) → Hp → Prop) (K : a7 → Hp → Prop) : Prop :=
 (a7C < (cr_1l4.d8.n : Int) →
 (0 : Int) ≤ a7C ∧ (a7C : Int) < cr_1l4.d8.n ∧ ∃ c7q : a7, EltH H cr_1l4.d8 a7C 4 (b8 c7q) ∧
 R8 c7q H (fun (b9s : a7) (d7t : Hp) =>
 (ccr_11l4_3.length + ([b9s] : List a7).length) * 57 ≤ 140737488355328 ∧
 n4 ((IntKind.wrap .i64 (a7C + 1)), cr_11l4_0, cr_11l4_1, cr_11l4_2, (ccr_11l4_3 ++ [b9s]), cr_6l4) d7t)) ∧
 (¬ (a7C < (cr_1l4.d8.n : Int)) →
 V5 cr_11l4_0 cr_11l4_1 cr_11l4_2 ccr_11l4_3 cr_6l4 cr_1l4 H K)
def a0l (x0 : a7) (H : Hp) (K : a7 → Hp → Prop) : Prop :=
 TL ((0, x0.b9, x0.g9, x0.g1, [], (a7.mk 0 0 ⟨#[]⟩ (Sl.mk none 0 0))) : Int × Int × Int × ByteArray × (List a7) × a7) H fun (s : Int × Int × Int × ByteArray × (List a7) × a7) H n4 => V6 x0 s.1 s.2.1 s.2.2.1 s.2.2.2.1 s.2.2.2.2.1 s.2.2.2.2.2 H n4 K
theorem b0X (x0 : a7) {w0 w : World} {ps0 : Nat → Prop} {H0 H : Hp} {K : a7 → Hp → Prop} {R : Value → World → Prop} {E : Pan} (I : Inv w0 ps0 H0 H [] w) (hR : ∀ (r0 : a7) (H' : Hp) (w' : World) (_ : Inv w0 ps0 H0 H' [] w') (_ : K r0 H'), R (Value.agg (b8 r0).toArray) w') (h : a0l x0 H K) : F40 (Value.agg (b8 x0).toArray) w R E := by
 unfold a0l at h
 unfold F40
 refine F7 I (cs := (b8 x0)) rfl fun g_2 w_3 I_4 k_5 => ?_
 refine u2 I_4 Tryd.zeroValue24 (cs := [(vi 0), (vi 0), (Value.string ⟨#[]⟩), (Value.slice none 0 0)]) rfl fun g_7 w_8 I_9 a6F => ?_
 refine a8 m9 ?_
 refine d9 (ld1 Tryd.isAgg3 ((I_9.bring 1).at1 (o := 0) (vs := [(vi x0.b9)]) (nb rfl) rfl)) ?_
 refine a8 B4 ?_
 refine d9 (ld1 Tryd.isAgg2 ((I_9.bring 1).at1 (o := 1) (vs := [(vi x0.g9)]) (nb rfl) rfl)) ?_
 refine a8 U6 ?_
 refine d9 (ld1 Tryd.isAgg9 ((I_9.bring 1).at1 (o := 2) (vs := [(Value.string x0.g1)]) (nb rfl) rfl)) ?_
 refine a8 (c2R _ _ _) ?_
 refine u2 I_9 Tryd.zeroValue24 (cs := [(vi 0), (vi 0), (Value.string ⟨#[]⟩), (Value.slice none 0 0)]) rfl fun L1 a2w J7 a2T => ?_
 refine k3 J7 Tryd.sizeOf24 (vs := [(vi x0.b9), (vi x0.g9), (Value.string x0.g1), (Value.slice none 0 0)]) (cs' := [(vi x0.b9), (vi x0.g9), (Value.string x0.g1), (Value.slice none 0 0)]) rfl rfl (nb rfl) rfl rfl fun o5 b4N e1A => ?_
 have hj1 : ∀ (cr_11j1_0 : Int) (cr_11j1_1 : Int) (cr_11j1_2 : ByteArray) (ccr_11j1_3 : (List a7)) (cr_6j1 : a7) (scr_11j1_3 : Sl) (Fcr_11j1_3 : Frag) (H : Hp) (w : World) (_ : RowL 24 4 b8 scr_11j1_3 ccr_11j1_3 Fcr_11j1_3) (_ : Inv w0 ps0 H0 H [bx L1 24 [(vi cr_11j1_0), (vi cr_11j1_1), (Value.string cr_11j1_2), (vs scr_11j1_3)], bx g_7 24 (b8 cr_6j1), bx g_2 24 (b8 x0), Fcr_11j1_3] w) (_ : V5 cr_11j1_0 cr_11j1_1 cr_11j1_2 ccr_11j1_3 cr_6j1 x0 H K), d1l (Value.pointer (some ⟨g_7, 0, none⟩)) (Value.pointer (some ⟨L1, 0, none⟩)) w R E := by
  intro cr_11j1_0 cr_11j1_1 cr_11j1_2 ccr_11j1_3 cr_6j1 scr_11j1_3 Fcr_11j1_3 H w hcr_11j1_3 I h
  unfold d1l
  intro _
  unfold V5 at h
  refine d9 (ldA Tryd.isAgg24 Tryd.sizeOf24 rfl (I.at1 (o := 0) (vs := [(vi cr_11j1_0), (vi cr_11j1_1), (Value.string cr_11j1_2), (vs scr_11j1_3)]) (nb rfl) rfl)) ?_
  obtain ⟨b5j, b8K, c9I, e5t, e5u⟩ := Inv.freezeC (I.bring 3) hcr_11j1_3 (by decide)
  replace h := h scr_11j1_3 b5j c9I e5t e5u
  refine f5 (cap := []) (fun args w => Tryd.call69 args w) ?_
  refine i6 (Fi := []) (Fr := [bx L1 24 [(vi cr_11j1_0), (vi cr_11j1_1), (Value.string cr_11j1_2), (vs scr_11j1_3)], bx g_7 24 (b8 cr_6j1), bx g_2 24 (b8 x0)]) b8K (h) (fun i2t c5V i2u M2 c2D d5m i2v h6m => ?_) (fun _ _ _ _ _ q => q.elim)
  obtain ⟨d7p, c7p, rfl, rfl, h⟩ := h6m
  refine a8 (i4 _ _ (vi d7p) rfl) ?_
  refine a8 (i4 _ _ (Value.bool c7p) rfl) ?_
  refine j9 (fun d7u => ?_) (fun d7u => ?_)
  ·replace h := h.1 d7u
   refine f5 (cap := []) (fun args w => Tryd.call70 args w) ?_
   refine i6 (Fi := []) (Fr := [bx L1 24 [(vi cr_11j1_0), (vi cr_11j1_1), (Value.string cr_11j1_2), (vs scr_11j1_3)], bx g_7 24 (b8 cr_6j1), bx g_2 24 (b8 x0)]) c2D (h) (fun i2w e5A i2x b1X h6n f7L i2y h6o => ?_) (fun _ _ _ _ _ q => q.elim)
   obtain ⟨c0p, rfl, rfl, h⟩ := h6o
   refine k3 (h6n.bring 1) Tryd.sizeOf24 (vs := (b8 c0p)) (cs' := (b8 c0p)) rfl rfl (nb rfl) rfl rfl fun g6m g8z i2z => ?_
   refine t6 Tryd.isAgg24 Tryd.sizeOf24 rfl (g8z.at1 (o := 0) (vs := (b8 c0p)) (nb rfl) rfl) ?_
   exact hR c0p e5A _ g8z.drop.drop.drop h
  ·replace h := h.2 d7u
   refine a8 m9 ?_
   refine d9 (ld1 Tryd.isAgg3 (c2D.at1 (o := 0) (vs := [(vi cr_11j1_0)]) (nb rfl) rfl)) ?_
   refine a8 (o3 _ _ _ _ _ _) ?_
   refine g8 (fun d7v => ?_) (fun d7v => ?_)
   ·replace h := h.1 d7v
    refine d9 (ldA Tryd.isAgg24 Tryd.sizeOf24 rfl (c2D.at1 (o := 0) (vs := [(vi cr_11j1_0), (vi cr_11j1_1), (Value.string cr_11j1_2), (vs scr_11j1_3)]) (nb rfl) rfl)) ?_
    refine k3 (c2D.bring 1) Tryd.sizeOf24 (vs := [(vi cr_11j1_0), (vi cr_11j1_1), (Value.string cr_11j1_2), (vs scr_11j1_3)]) (cs' := [(vi cr_11j1_0), (vi cr_11j1_1), (Value.string cr_11j1_2), (vs scr_11j1_3)]) rfl rfl (nb rfl) rfl rfl fun X3 g8A i2A => ?_
    refine t6 Tryd.isAgg24 Tryd.sizeOf24 rfl (g8A.at1 (o := 0) (vs := [(vi cr_11j1_0), (vi cr_11j1_1), (Value.string cr_11j1_2), (vs scr_11j1_3)]) (nb rfl) rfl) ?_
    exact hR (a7.mk cr_11j1_0 cr_11j1_1 cr_11j1_2 scr_11j1_3) c5V _ g8A.drop.drop.drop h
   ·replace h := h.2 d7v
    refine a8 i8 ?_
    refine d9 (ld1 Tryd.isAgg22 (c2D.at1 (o := 3) (vs := [(vs scr_11j1_3)]) (nb rfl) rfl)) ?_
    obtain ⟨e5o, c2l, d7q, c2m, h⟩ := h
    obtain ⟨i2B, i2C, d0R, c2m⟩ := c2m
    refine a8 (m7 d0R _ _ _ _ e5o c2l) ?_
    refine d9 (ldA (vs := (b8 d7q)) Tryd.isAgg24 Tryd.sizeOf24 rfl (c2D.atH c2m)) ?_
    refine f5 (cap := []) (fun args w => Tryd.call69 args w) ?_
    refine i6 (Fi := []) (Fr := [bx L1 24 [(vi cr_11j1_0), (vi cr_11j1_1), (Value.string cr_11j1_2), (vs scr_11j1_3)], bx g_7 24 (b8 cr_6j1), bx g_2 24 (b8 x0)]) c2D (h) (fun h6h b3x h6i c5O c2C e1l h6j e5z => ?_) (fun _ _ _ _ _ q => q.elim)
    obtain ⟨a5F, a7k, rfl, rfl, h⟩ := e5z
    refine a8 (i4 _ _ (vi a5F) rfl) ?_
    refine a8 (i4 _ _ (Value.bool a7k) rfl) ?_
    have hj2 : ∀ (b9c : Bool) (a6M : Int) (H : Hp) (w : World) (_ : Inv w0 ps0 H0 H [bx L1 24 [(vi (a7.mk cr_11j1_0 cr_11j1_1 cr_11j1_2 scr_11j1_3).b9), (vi (a7.mk cr_11j1_0 cr_11j1_1 cr_11j1_2 scr_11j1_3).g9), (Value.string (a7.mk cr_11j1_0 cr_11j1_1 cr_11j1_2 scr_11j1_3).g1), (Value.slice (a7.mk cr_11j1_0 cr_11j1_1 cr_11j1_2 scr_11j1_3).d8.a (a7.mk cr_11j1_0 cr_11j1_1 cr_11j1_2 scr_11j1_3).d8.n (a7.mk cr_11j1_0 cr_11j1_1 cr_11j1_2 scr_11j1_3).d8.c)], bx g_7 24 (b8 cr_6j1), bx g_2 24 (b8 x0)] w) (_ : I2 a5F b9c a6M (a7.mk cr_11j1_0 cr_11j1_1 cr_11j1_2 scr_11j1_3) cr_6j1 x0 H K), d1k (Value.pointer (some ⟨g_7, 0, none⟩)) (Value.pointer (some ⟨L1, 0, none⟩)) (vi a5F) (Value.bool b9c) (vi a6M) w R E := by
     intro b9c a6M H w I h
     unfold d1k
     intro _
     unfold I2 at h
     have hj3 : ∀ (H : Hp) (w : World) (_ : Inv w0 ps0 H0 H [bx L1 24 [(vi (a7.mk cr_11j1_0 cr_11j1_1 cr_11j1_2 scr_11j1_3).b9), (vi (a7.mk cr_11j1_0 cr_11j1_1 cr_11j1_2 scr_11j1_3).g9), (Value.string (a7.mk cr_11j1_0 cr_11j1_1 cr_11j1_2 scr_11j1_3).g1), (Value.slice (a7.mk cr_11j1_0 cr_11j1_1 cr_11j1_2 scr_11j1_3).d8.a (a7.mk cr_11j1_0 cr_11j1_1 cr_11j1_2 scr_11j1_3).d8.n (a7.mk cr_11j1_0 cr_11j1_1 cr_11j1_2 scr_11j1_3).d8.c)], bx g_7 24 (b8 cr_6j1), bx g_2 24 (b8 x0)] w) (_ : I1 (a7.mk cr_11j1_0 cr_11j1_1 cr_11j1_2 scr_11j1_3) cr_6j1 x0 H K), d1j (Value.pointer (some ⟨g_7, 0, none⟩)) (Value.pointer (some ⟨L1, 0, none⟩)) w R E := by
      intro H w I h
      unfold d1j
      intro _
      unfold I1 at h
      refine a8 m9 ?_
      refine d9 (ld1 Tryd.isAgg3 (I.at1 (o := 0) (vs := [(vi (a7.mk cr_11j1_0 cr_11j1_1 cr_11j1_2 scr_11j1_3).b9)]) (nb rfl) rfl)) ?_
      refine a8 (f4 _ _ _ _ _ _) ?_
      refine a8 (Pu.g fun hb => by have b6 := hb; first | exact i8 | (simp only [d7 b6, b7 b6, b7 hb, m8 b6]; exact i8) | (simp only [d7 b6, b7 b6, b7 hb, f8 b6, f9]; exact i8)) ?_
      refine d9 (Ld.g fun hb => by have b6 := hb; first | exact (ld1 Tryd.isAgg22 (I.at1 (o := 3) (vs := [(Value.slice (a7.mk cr_11j1_0 cr_11j1_1 cr_11j1_2 scr_11j1_3).d8.a (a7.mk cr_11j1_0 cr_11j1_1 cr_11j1_2 scr_11j1_3).d8.n (a7.mk cr_11j1_0 cr_11j1_1 cr_11j1_2 scr_11j1_3).d8.c)]) (nb rfl) rfl)) | (simp only [b7 b6]; exact (ld1 Tryd.isAgg22 (I.at1 (o := 3) (vs := [(Value.slice (a7.mk cr_11j1_0 cr_11j1_1 cr_11j1_2 scr_11j1_3).d8.a (a7.mk cr_11j1_0 cr_11j1_1 cr_11j1_2 scr_11j1_3).d8.n (a7.mk cr_11j1_0 cr_11j1_1 cr_11j1_2 scr_11j1_3).d8.c)]) (nb rfl) rfl))) | (simp only [d7 b6, b7 b6, b7 hb, f8 b6, f9]; exact (ld1 Tryd.isAgg22 (I.at1 (o := 3) (vs := [(Value.slice (a7.mk cr_11j1_0 cr_11j1_1 cr_11j1_2 scr_11j1_3).d8.a (a7.mk cr_11j1_0 cr_11j1_1 cr_11j1_2 scr_11j1_3).d8.n (a7.mk cr_11j1_0 cr_11j1_1 cr_11j1_2 scr_11j1_3).d8.c)]) (nb rfl) rfl)))) ?_
      obtain ⟨c0o, a6f, h⟩ := h
      obtain ⟨h7J, h7K, a6f⟩ := b0p a6f
      refine a8 (Pu.g fun hb => by have b6 := hb; first | exact (m7 (a6f hb).2.2.1 _ _ _ _ (a6f hb).1 (a6f hb).2.1) | (simp only [b7 b6]; exact (m7 (a6f hb).2.2.1 _ _ _ _ (a6f hb).1 (a6f hb).2.1)) | (simp only [d7 b6, b7 b6, b7 hb, f8 b6, f9]; exact (m7 (a6f hb).2.2.1 _ _ _ _ (a6f hb).1 (a6f hb).2.1))) ?_
      refine d9 (Ld.g fun hb => by have b6 := hb; first | exact (ldA (vs := (b8 c0o)) Tryd.isAgg24 Tryd.sizeOf24 rfl (I.atH (a6f hb).2.2.2)) | (simp only [b7 b6]; exact (ldA (vs := (b8 c0o)) Tryd.isAgg24 Tryd.sizeOf24 rfl (I.atH (a6f hb).2.2.2))) | (simp only [d7 b6, b7 b6, b7 hb, f8 b6, f9]; exact (ldA (vs := (b8 c0o)) Tryd.isAgg24 Tryd.sizeOf24 rfl (I.atH (a6f hb).2.2.2)))) ?_
      refine W1 (D := fun d7w a3E => ∃ (a9p : Bool) (a3e : Hp) , d7w = (gv (decide ((a7.mk cr_11j1_0 cr_11j1_1 cr_11j1_2 scr_11j1_3).b9 = 6)) true (Value.bool a9p)) ∧ (Inv w0 ps0 H0 a3e [bx L1 24 [(vi (a7.mk cr_11j1_0 cr_11j1_1 cr_11j1_2 scr_11j1_3).b9), (vi (a7.mk cr_11j1_0 cr_11j1_1 cr_11j1_2 scr_11j1_3).g9), (Value.string (a7.mk cr_11j1_0 cr_11j1_1 cr_11j1_2 scr_11j1_3).g1), (Value.slice (a7.mk cr_11j1_0 cr_11j1_1 cr_11j1_2 scr_11j1_3).d8.a (a7.mk cr_11j1_0 cr_11j1_1 cr_11j1_2 scr_11j1_3).d8.n (a7.mk cr_11j1_0 cr_11j1_1 cr_11j1_2 scr_11j1_3).d8.c)], bx g_7 24 (b8 cr_6j1), bx g_2 24 (b8 x0)] a3E) ∧ (∀ i, i < w.heap.size → ¬ inF [] i → a3E.heap[i]? = w.heap[i]?) ∧ Hle H a3e ∧ ((((decide ((a7.mk cr_11j1_0 cr_11j1_1 cr_11j1_2 scr_11j1_3).b9 = 6)) && a9p) = true →
 (0 : Int) ≤ 0 ∧ (0 : Int) < (a7.mk cr_11j1_0 cr_11j1_1 cr_11j1_2 scr_11j1_3).d8.n ∧ ∃ a9q : a7, EltH a3e (a7.mk cr_11j1_0 cr_11j1_1 cr_11j1_2 scr_11j1_3).d8 0 4 (b8 a9q) ∧
 K a9q a3e) ∧
 (((decide ((a7.mk cr_11j1_0 cr_11j1_1 cr_11j1_2 scr_11j1_3).b9 = 6)) && a9p) = false →
 ∃ b1D : a7, ((decide ((a7.mk cr_11j1_0 cr_11j1_1 cr_11j1_2 scr_11j1_3).b9 = 6)) = true → (0 : Int) ≤ 0 ∧ (0 : Int) < (a7.mk cr_11j1_0 cr_11j1_1 cr_11j1_2 scr_11j1_3).d8.n ∧ EltH a3e (a7.mk cr_11j1_0 cr_11j1_1 cr_11j1_2 scr_11j1_3).d8 0 4 (b8 b1D)) ∧
 TG ((decide ((a7.mk cr_11j1_0 cr_11j1_1 cr_11j1_2 scr_11j1_3).b9 = 6)) = true) (p7 b1D 0 a3e) false a3e (fun (a5P : Bool) (Y9 : Hp) =>
 (((decide ((a7.mk cr_11j1_0 cr_11j1_1 cr_11j1_2 scr_11j1_3).b9 = 6)) && a5P) = true →
 (0 : Int) ≤ 1 ∧ (1 : Int) < (a7.mk cr_11j1_0 cr_11j1_1 cr_11j1_2 scr_11j1_3).d8.n ∧ ∃ a6e : a7, EltH Y9 (a7.mk cr_11j1_0 cr_11j1_1 cr_11j1_2 scr_11j1_3).d8 1 4 (b8 a6e) ∧
 K a6e Y9) ∧
 (((decide ((a7.mk cr_11j1_0 cr_11j1_1 cr_11j1_2 scr_11j1_3).b9 = 6)) && a5P) = false →
 ∃ a7T : a7, ((decide ((a7.mk cr_11j1_0 cr_11j1_1 cr_11j1_2 scr_11j1_3).b9 = 7)) = true → (0 : Int) ≤ 1 ∧ (1 : Int) < (a7.mk cr_11j1_0 cr_11j1_1 cr_11j1_2 scr_11j1_3).d8.n ∧ EltH Y9 (a7.mk cr_11j1_0 cr_11j1_1 cr_11j1_2 scr_11j1_3).d8 1 4 (b8 a7T)) ∧
 TG ((decide ((a7.mk cr_11j1_0 cr_11j1_1 cr_11j1_2 scr_11j1_3).b9 = 7)) = true) (p7 a7T 0 Y9) false Y9 (fun (a3B : Bool) (P0 : Hp) =>
 (((decide ((a7.mk cr_11j1_0 cr_11j1_1 cr_11j1_2 scr_11j1_3).b9 = 7)) && a3B) = true →
 (0 : Int) ≤ 0 ∧ (0 : Int) < (a7.mk cr_11j1_0 cr_11j1_1 cr_11j1_2 scr_11j1_3).d8.n ∧ ∃ a4v : a7, EltH P0 (a7.mk cr_11j1_0 cr_11j1_1 cr_11j1_2 scr_11j1_3).d8 0 4 (b8 a4v) ∧
 K a4v P0) ∧
 (((decide ((a7.mk cr_11j1_0 cr_11j1_1 cr_11j1_2 scr_11j1_3).b9 = 7)) && a3B) = false →
 ∃ a5G : a7, (((decide ((a7.mk cr_11j1_0 cr_11j1_1 cr_11j1_2 scr_11j1_3).b9 = 8)) || (decide ((a7.mk cr_11j1_0 cr_11j1_1 cr_11j1_2 scr_11j1_3).b9 = 9))) = true → (0 : Int) ≤ 1 ∧ (1 : Int) < (a7.mk cr_11j1_0 cr_11j1_1 cr_11j1_2 scr_11j1_3).d8.n ∧ EltH P0 (a7.mk cr_11j1_0 cr_11j1_1 cr_11j1_2 scr_11j1_3).d8 1 4 (b8 a5G)) ∧
 TG (((decide ((a7.mk cr_11j1_0 cr_11j1_1 cr_11j1_2 scr_11j1_3).b9 = 8)) || (decide ((a7.mk cr_11j1_0 cr_11j1_1 cr_11j1_2 scr_11j1_3).b9 = 9))) = true) (p7 a5G 1 P0) false P0 (fun (a1z : Bool) (I9 : Hp) =>
 ((((decide ((a7.mk cr_11j1_0 cr_11j1_1 cr_11j1_2 scr_11j1_3).b9 = 8)) || (decide ((a7.mk cr_11j1_0 cr_11j1_1 cr_11j1_2 scr_11j1_3).b9 = 9))) && a1z) = true →
 (0 : Int) ≤ 0 ∧ (0 : Int) < (a7.mk cr_11j1_0 cr_11j1_1 cr_11j1_2 scr_11j1_3).d8.n ∧ ∃ a2v : a7, EltH I9 (a7.mk cr_11j1_0 cr_11j1_1 cr_11j1_2 scr_11j1_3).d8 0 4 (b8 a2v) ∧
 K a2v I9) ∧
 ((((decide ((a7.mk cr_11j1_0 cr_11j1_1 cr_11j1_2 scr_11j1_3).b9 = 8)) || (decide ((a7.mk cr_11j1_0 cr_11j1_1 cr_11j1_2 scr_11j1_3).b9 = 9))) && a1z) = false →
 ∃ a3N : a7, ((decide ((a7.mk cr_11j1_0 cr_11j1_1 cr_11j1_2 scr_11j1_3).b9 = 8)) = true → (0 : Int) ≤ 0 ∧ (0 : Int) < (a7.mk cr_11j1_0 cr_11j1_1 cr_11j1_2 scr_11j1_3).d8.n ∧ EltH I9 (a7.mk cr_11j1_0 cr_11j1_1 cr_11j1_2 scr_11j1_3).d8 0 4 (b8 a3N)) ∧
 TG ((decide ((a7.mk cr_11j1_0 cr_11j1_1 cr_11j1_2 scr_11j1_3).b9 = 8)) = true) (p7 a3N 1 I9) false I9 (fun (X9 : Bool) (R1 : Hp) =>
 (((decide ((a7.mk cr_11j1_0 cr_11j1_1 cr_11j1_2 scr_11j1_3).b9 = 8)) && X9) = true →
 (0 : Int) ≤ 1 ∧ (1 : Int) < (a7.mk cr_11j1_0 cr_11j1_1 cr_11j1_2 scr_11j1_3).d8.n ∧ ∃ a0U : a7, EltH R1 (a7.mk cr_11j1_0 cr_11j1_1 cr_11j1_2 scr_11j1_3).d8 1 4 (b8 a0U) ∧
 K a0U R1) ∧
 (((decide ((a7.mk cr_11j1_0 cr_11j1_1 cr_11j1_2 scr_11j1_3).b9 = 8)) && X9) = false →
 K (a7.mk cr_11j1_0 cr_11j1_1 cr_11j1_2 scr_11j1_3) R1))))))))))) (fun c0q => ?_) (fun c0q => ?_) ?_
      ·replace h := h.1 c0q
       have b6 := c0q
       try simp only [b7 b6]
       refine f5 (cap := []) (fun args w => Tryd.call72 args w) ?_
       refine i6 (Fi := []) (Fr := [bx L1 24 [(vi (a7.mk cr_11j1_0 cr_11j1_1 cr_11j1_2 scr_11j1_3).b9), (vi (a7.mk cr_11j1_0 cr_11j1_1 cr_11j1_2 scr_11j1_3).g9), (Value.string (a7.mk cr_11j1_0 cr_11j1_1 cr_11j1_2 scr_11j1_3).g1), (Value.slice (a7.mk cr_11j1_0 cr_11j1_1 cr_11j1_2 scr_11j1_3).d8.a (a7.mk cr_11j1_0 cr_11j1_1 cr_11j1_2 scr_11j1_3).d8.n (a7.mk cr_11j1_0 cr_11j1_1 cr_11j1_2 scr_11j1_3).d8.c)], bx g_7 24 (b8 cr_6j1), bx g_2 24 (b8 x0)]) I (h) (fun d7w a3e h7L a3E a4t e6J d6O h1E => ?_) (fun _ _ _ _ _ q => q.elim)
       obtain ⟨a9p, rfl, rfl, h⟩ := h1E
       exact ⟨a9p, a3e, by first | rfl | rw [b7 c0q], a4t, d6O, e6J, h⟩
      ·exact ⟨false, H, by first | rfl | rw [a3k c0q], I, fun _ _ _ => rfl, Hle.refl _, h.2 c0q⟩
      ·clear h
       rintro d7w a3E ⟨a9p, a3e, rfl, a4t, d6O, e6J, h⟩
       refine a8 (k9 _ _) ?_
       refine j9 (fun d7x => ?_) (fun d7x => ?_)
       ·replace h := h.1 d7x
        refine a8 i8 ?_
        refine d9 (ld1 Tryd.isAgg22 (a4t.at1 (o := 3) (vs := [(Value.slice (a7.mk cr_11j1_0 cr_11j1_1 cr_11j1_2 scr_11j1_3).d8.a (a7.mk cr_11j1_0 cr_11j1_1 cr_11j1_2 scr_11j1_3).d8.n (a7.mk cr_11j1_0 cr_11j1_1 cr_11j1_2 scr_11j1_3).d8.c)]) (nb rfl) rfl)) ?_
        obtain ⟨h1F, c7g, a9q, b4r, h⟩ := h
        obtain ⟨h7M, h7N, c0f, b4r⟩ := b4r
        refine a8 (m7 c0f _ _ _ _ h1F c7g) ?_
        refine d9 (ldA (vs := (b8 a9q)) Tryd.isAgg24 Tryd.sizeOf24 rfl (a4t.atH b4r)) ?_
        refine k3 (a4t.bring 1) Tryd.sizeOf24 (vs := (b8 a9q)) (cs' := (b8 a9q)) rfl rfl (nb rfl) rfl rfl fun c6V e6K h7O => ?_
        refine t6 Tryd.isAgg24 Tryd.sizeOf24 rfl (e6K.at1 (o := 0) (vs := (b8 a9q)) (nb rfl) rfl) ?_
        exact hR a9q a3e _ e6K.drop.drop.drop h
       ·replace h := h.2 d7x
        refine a8 m9 ?_
        refine d9 (ld1 Tryd.isAgg3 (a4t.at1 (o := 0) (vs := [(vi (a7.mk cr_11j1_0 cr_11j1_1 cr_11j1_2 scr_11j1_3).b9)]) (nb rfl) rfl)) ?_
        refine a8 (f4 _ _ _ _ _ _) ?_
        refine a8 (Pu.g fun hb => by have b6 := hb; first | exact i8 | (simp only [d7 b6, b7 b6, b7 hb, m8 b6]; exact i8) | (simp only [d7 b6, b7 b6, b7 hb, f8 b6, f9]; exact i8)) ?_
        refine d9 (Ld.g fun hb => by have b6 := hb; first | exact (ld1 Tryd.isAgg22 (a4t.at1 (o := 3) (vs := [(Value.slice (a7.mk cr_11j1_0 cr_11j1_1 cr_11j1_2 scr_11j1_3).d8.a (a7.mk cr_11j1_0 cr_11j1_1 cr_11j1_2 scr_11j1_3).d8.n (a7.mk cr_11j1_0 cr_11j1_1 cr_11j1_2 scr_11j1_3).d8.c)]) (nb rfl) rfl)) | (simp only [b7 b6]; exact (ld1 Tryd.isAgg22 (a4t.at1 (o := 3) (vs := [(Value.slice (a7.mk cr_11j1_0 cr_11j1_1 cr_11j1_2 scr_11j1_3).d8.a (a7.mk cr_11j1_0 cr_11j1_1 cr_11j1_2 scr_11j1_3).d8.n (a7.mk cr_11j1_0 cr_11j1_1 cr_11j1_2 scr_11j1_3).d8.c)]) (nb rfl) rfl))) | (simp only [d7 b6, b7 b6, b7 hb, f8 b6, f9]; exact (ld1 Tryd.isAgg22 (a4t.at1 (o := 3) (vs := [(Value.slice (a7.mk cr_11j1_0 cr_11j1_1 cr_11j1_2 scr_11j1_3).d8.a (a7.mk cr_11j1_0 cr_11j1_1 cr_11j1_2 scr_11j1_3).d8.n (a7.mk cr_11j1_0 cr_11j1_1 cr_11j1_2 scr_11j1_3).d8.c)]) (nb rfl) rfl)))) ?_
        obtain ⟨b1D, a4R, h⟩ := h
        obtain ⟨h7P, h7Q, a4R⟩ := b0p a4R
        refine a8 (Pu.g fun hb => by have b6 := hb; first | exact (m7 (a4R hb).2.2.1 _ _ _ _ (a4R hb).1 (a4R hb).2.1) | (simp only [b7 b6]; exact (m7 (a4R hb).2.2.1 _ _ _ _ (a4R hb).1 (a4R hb).2.1)) | (simp only [d7 b6, b7 b6, b7 hb, f8 b6, f9]; exact (m7 (a4R hb).2.2.1 _ _ _ _ (a4R hb).1 (a4R hb).2.1))) ?_
        refine d9 (Ld.g fun hb => by have b6 := hb; first | exact (ldA (vs := (b8 b1D)) Tryd.isAgg24 Tryd.sizeOf24 rfl (a4t.atH (a4R hb).2.2.2)) | (simp only [b7 b6]; exact (ldA (vs := (b8 b1D)) Tryd.isAgg24 Tryd.sizeOf24 rfl (a4t.atH (a4R hb).2.2.2))) | (simp only [d7 b6, b7 b6, b7 hb, f8 b6, f9]; exact (ldA (vs := (b8 b1D)) Tryd.isAgg24 Tryd.sizeOf24 rfl (a4t.atH (a4R hb).2.2.2)))) ?_
        refine W1 (D := fun d7y b4n => ∃ (a5P : Bool) (Y9 : Hp) , d7y = (gv (decide ((a7.mk cr_11j1_0 cr_11j1_1 cr_11j1_2 scr_11j1_3).b9 = 6)) true (Value.bool a5P)) ∧ (Inv w0 ps0 H0 Y9 [bx L1 24 [(vi (a7.mk cr_11j1_0 cr_11j1_1 cr_11j1_2 scr_11j1_3).b9), (vi (a7.mk cr_11j1_0 cr_11j1_1 cr_11j1_2 scr_11j1_3).g9), (Value.string (a7.mk cr_11j1_0 cr_11j1_1 cr_11j1_2 scr_11j1_3).g1), (Value.slice (a7.mk cr_11j1_0 cr_11j1_1 cr_11j1_2 scr_11j1_3).d8.a (a7.mk cr_11j1_0 cr_11j1_1 cr_11j1_2 scr_11j1_3).d8.n (a7.mk cr_11j1_0 cr_11j1_1 cr_11j1_2 scr_11j1_3).d8.c)], bx g_7 24 (b8 cr_6j1), bx g_2 24 (b8 x0)] b4n) ∧ (∀ i, i < a3E.heap.size → ¬ inF [] i → b4n.heap[i]? = a3E.heap[i]?) ∧ Hle a3e Y9 ∧ ((((decide ((a7.mk cr_11j1_0 cr_11j1_1 cr_11j1_2 scr_11j1_3).b9 = 6)) && a5P) = true →
 (0 : Int) ≤ 1 ∧ (1 : Int) < (a7.mk cr_11j1_0 cr_11j1_1 cr_11j1_2 scr_11j1_3).d8.n ∧ ∃ a6e : a7, EltH Y9 (a7.mk cr_11j1_0 cr_11j1_1 cr_11j1_2 scr_11j1_3).d8 1 4 (b8 a6e) ∧
 K a6e Y9) ∧
 (((decide ((a7.mk cr_11j1_0 cr_11j1_1 cr_11j1_2 scr_11j1_3).b9 = 6)) && a5P) = false →
 ∃ a7T : a7, ((decide ((a7.mk cr_11j1_0 cr_11j1_1 cr_11j1_2 scr_11j1_3).b9 = 7)) = true → (0 : Int) ≤ 1 ∧ (1 : Int) < (a7.mk cr_11j1_0 cr_11j1_1 cr_11j1_2 scr_11j1_3).d8.n ∧ EltH Y9 (a7.mk cr_11j1_0 cr_11j1_1 cr_11j1_2 scr_11j1_3).d8 1 4 (b8 a7T)) ∧
 TG ((decide ((a7.mk cr_11j1_0 cr_11j1_1 cr_11j1_2 scr_11j1_3).b9 = 7)) = true) (p7 a7T 0 Y9) false Y9 (fun (a3B : Bool) (P0 : Hp) =>
 (((decide ((a7.mk cr_11j1_0 cr_11j1_1 cr_11j1_2 scr_11j1_3).b9 = 7)) && a3B) = true →
 (0 : Int) ≤ 0 ∧ (0 : Int) < (a7.mk cr_11j1_0 cr_11j1_1 cr_11j1_2 scr_11j1_3).d8.n ∧ ∃ a4v : a7, EltH P0 (a7.mk cr_11j1_0 cr_11j1_1 cr_11j1_2 scr_11j1_3).d8 0 4 (b8 a4v) ∧
 K a4v P0) ∧
 (((decide ((a7.mk cr_11j1_0 cr_11j1_1 cr_11j1_2 scr_11j1_3).b9 = 7)) && a3B) = false →
 ∃ a5G : a7, (((decide ((a7.mk cr_11j1_0 cr_11j1_1 cr_11j1_2 scr_11j1_3).b9 = 8)) || (decide ((a7.mk cr_11j1_0 cr_11j1_1 cr_11j1_2 scr_11j1_3).b9 = 9))) = true → (0 : Int) ≤ 1 ∧ (1 : Int) < (a7.mk cr_11j1_0 cr_11j1_1 cr_11j1_2 scr_11j1_3).d8.n ∧ EltH P0 (a7.mk cr_11j1_0 cr_11j1_1 cr_11j1_2 scr_11j1_3).d8 1 4 (b8 a5G)) ∧
 TG (((decide ((a7.mk cr_11j1_0 cr_11j1_1 cr_11j1_2 scr_11j1_3).b9 = 8)) || (decide ((a7.mk cr_11j1_0 cr_11j1_1 cr_11j1_2 scr_11j1_3).b9 = 9))) = true) (p7 a5G 1 P0) false P0 (fun (a1z : Bool) (I9 : Hp) =>
 ((((decide ((a7.mk cr_11j1_0 cr_11j1_1 cr_11j1_2 scr_11j1_3).b9 = 8)) || (decide ((a7.mk cr_11j1_0 cr_11j1_1 cr_11j1_2 scr_11j1_3).b9 = 9))) && a1z) = true →
 (0 : Int) ≤ 0 ∧ (0 : Int) < (a7.mk cr_11j1_0 cr_11j1_1 cr_11j1_2 scr_11j1_3).d8.n ∧ ∃ a2v : a7, EltH I9 (a7.mk cr_11j1_0 cr_11j1_1 cr_11j1_2 scr_11j1_3).d8 0 4 (b8 a2v) ∧
 K a2v I9) ∧
 ((((decide ((a7.mk cr_11j1_0 cr_11j1_1 cr_11j1_2 scr_11j1_3).b9 = 8)) || (decide ((a7.mk cr_11j1_0 cr_11j1_1 cr_11j1_2 scr_11j1_3).b9 = 9))) && a1z) = false →
 ∃ a3N : a7, ((decide ((a7.mk cr_11j1_0 cr_11j1_1 cr_11j1_2 scr_11j1_3).b9 = 8)) = true → (0 : Int) ≤ 0 ∧ (0 : Int) < (a7.mk cr_11j1_0 cr_11j1_1 cr_11j1_2 scr_11j1_3).d8.n ∧ EltH I9 (a7.mk cr_11j1_0 cr_11j1_1 cr_11j1_2 scr_11j1_3).d8 0 4 (b8 a3N)) ∧
 TG ((decide ((a7.mk cr_11j1_0 cr_11j1_1 cr_11j1_2 scr_11j1_3).b9 = 8)) = true) (p7 a3N 1 I9) false I9 (fun (X9 : Bool) (R1 : Hp) =>
 (((decide ((a7.mk cr_11j1_0 cr_11j1_1 cr_11j1_2 scr_11j1_3).b9 = 8)) && X9) = true →
 (0 : Int) ≤ 1 ∧ (1 : Int) < (a7.mk cr_11j1_0 cr_11j1_1 cr_11j1_2 scr_11j1_3).d8.n ∧ ∃ a0U : a7, EltH R1 (a7.mk cr_11j1_0 cr_11j1_1 cr_11j1_2 scr_11j1_3).d8 1 4 (b8 a0U) ∧
 K a0U R1) ∧
 (((decide ((a7.mk cr_11j1_0 cr_11j1_1 cr_11j1_2 scr_11j1_3).b9 = 8)) && X9) = false →
 K (a7.mk cr_11j1_0 cr_11j1_1 cr_11j1_2 scr_11j1_3) R1))))))))) (fun c0r => ?_) (fun c0r => ?_) ?_
        ·replace h := h.1 c0r
         have b6 := c0r
         try simp only [b7 b6]
         refine f5 (cap := []) (fun args w => Tryd.call72 args w) ?_
         refine i6 (Fi := []) (Fr := [bx L1 24 [(vi (a7.mk cr_11j1_0 cr_11j1_1 cr_11j1_2 scr_11j1_3).b9), (vi (a7.mk cr_11j1_0 cr_11j1_1 cr_11j1_2 scr_11j1_3).g9), (Value.string (a7.mk cr_11j1_0 cr_11j1_1 cr_11j1_2 scr_11j1_3).g1), (Value.slice (a7.mk cr_11j1_0 cr_11j1_1 cr_11j1_2 scr_11j1_3).d8.a (a7.mk cr_11j1_0 cr_11j1_1 cr_11j1_2 scr_11j1_3).d8.n (a7.mk cr_11j1_0 cr_11j1_1 cr_11j1_2 scr_11j1_3).d8.c)], bx g_7 24 (b8 cr_6j1), bx g_2 24 (b8 x0)]) a4t (h) (fun d7y Y9 h7R b4n a6g e6L e6M h1G => ?_) (fun _ _ _ _ _ q => q.elim)
         obtain ⟨a5P, rfl, rfl, h⟩ := h1G
         exact ⟨a5P, Y9, by first | rfl | rw [b7 c0r], a6g, e6M, e6L, h⟩
        ·exact ⟨false, a3e, by first | rfl | rw [a3k c0r], a4t, fun _ _ _ => rfl, Hle.refl _, h.2 c0r⟩
        ·clear h
         rintro d7y b4n ⟨a5P, Y9, rfl, a6g, e6M, e6L, h⟩
         refine a8 (k9 _ _) ?_
         refine j9 (fun d7z => ?_) (fun d7z => ?_)
         ·replace h := h.1 d7z
          refine a8 i8 ?_
          refine d9 (ld1 Tryd.isAgg22 (a6g.at1 (o := 3) (vs := [(Value.slice (a7.mk cr_11j1_0 cr_11j1_1 cr_11j1_2 scr_11j1_3).d8.a (a7.mk cr_11j1_0 cr_11j1_1 cr_11j1_2 scr_11j1_3).d8.n (a7.mk cr_11j1_0 cr_11j1_1 cr_11j1_2 scr_11j1_3).d8.c)]) (nb rfl) rfl)) ?_
          obtain ⟨h1H, e6N, a6e, c4d, h⟩ := h
          obtain ⟨h7S, h7T, d6W, c4d⟩ := c4d
          refine a8 (m7 d6W _ _ _ _ h1H e6N) ?_
          refine d9 (ldA (vs := (b8 a6e)) Tryd.isAgg24 Tryd.sizeOf24 rfl (a6g.atH c4d)) ?_
          refine k3 (a6g.bring 1) Tryd.sizeOf24 (vs := (b8 a6e)) (cs' := (b8 a6e)) rfl rfl (nb rfl) rfl rfl fun h7U e6O h7V => ?_
          refine t6 Tryd.isAgg24 Tryd.sizeOf24 rfl (e6O.at1 (o := 0) (vs := (b8 a6e)) (nb rfl) rfl) ?_
          exact hR a6e Y9 _ e6O.drop.drop.drop h
         ·replace h := h.2 d7z
          refine a8 m9 ?_
          refine d9 (ld1 Tryd.isAgg3 (a6g.at1 (o := 0) (vs := [(vi (a7.mk cr_11j1_0 cr_11j1_1 cr_11j1_2 scr_11j1_3).b9)]) (nb rfl) rfl)) ?_
          refine a8 (f4 _ _ _ _ _ _) ?_
          refine a8 (Pu.g fun hb => by have b6 := hb; first | exact i8 | (simp only [d7 b6, b7 b6, b7 hb, m8 b6]; exact i8) | (simp only [d7 b6, b7 b6, b7 hb, f8 b6, f9]; exact i8)) ?_
          refine d9 (Ld.g fun hb => by have b6 := hb; first | exact (ld1 Tryd.isAgg22 (a6g.at1 (o := 3) (vs := [(Value.slice (a7.mk cr_11j1_0 cr_11j1_1 cr_11j1_2 scr_11j1_3).d8.a (a7.mk cr_11j1_0 cr_11j1_1 cr_11j1_2 scr_11j1_3).d8.n (a7.mk cr_11j1_0 cr_11j1_1 cr_11j1_2 scr_11j1_3).d8.c)]) (nb rfl) rfl)) | (simp only [b7 b6]; exact (ld1 Tryd.isAgg22 (a6g.at1 (o := 3) (vs := [(Value.slice (a7.mk cr_11j1_0 cr_11j1_1 cr_11j1_2 scr_11j1_3).d8.a (a7.mk cr_11j1_0 cr_11j1_1 cr_11j1_2 scr_11j1_3).d8.n (a7.mk cr_11j1_0 cr_11j1_1 cr_11j1_2 scr_11j1_3).d8.c)]) (nb rfl) rfl))) | (simp only [d7 b6, b7 b6, b7 hb, f8 b6, f9]; exact (ld1 Tryd.isAgg22 (a6g.at1 (o := 3) (vs := [(Value.slice (a7.mk cr_11j1_0 cr_11j1_1 cr_11j1_2 scr_11j1_3).d8.a (a7.mk cr_11j1_0 cr_11j1_1 cr_11j1_2 scr_11j1_3).d8.n (a7.mk cr_11j1_0 cr_11j1_1 cr_11j1_2 scr_11j1_3).d8.c)]) (nb rfl) rfl)))) ?_
          obtain ⟨a7T, a6h, h⟩ := h
          obtain ⟨h7W, h7X, a6h⟩ := b0p a6h
          refine a8 (Pu.g fun hb => by have b6 := hb; first | exact (m7 (a6h hb).2.2.1 _ _ _ _ (a6h hb).1 (a6h hb).2.1) | (simp only [b7 b6]; exact (m7 (a6h hb).2.2.1 _ _ _ _ (a6h hb).1 (a6h hb).2.1)) | (simp only [d7 b6, b7 b6, b7 hb, f8 b6, f9]; exact (m7 (a6h hb).2.2.1 _ _ _ _ (a6h hb).1 (a6h hb).2.1))) ?_
          refine d9 (Ld.g fun hb => by have b6 := hb; first | exact (ldA (vs := (b8 a7T)) Tryd.isAgg24 Tryd.sizeOf24 rfl (a6g.atH (a6h hb).2.2.2)) | (simp only [b7 b6]; exact (ldA (vs := (b8 a7T)) Tryd.isAgg24 Tryd.sizeOf24 rfl (a6g.atH (a6h hb).2.2.2))) | (simp only [d7 b6, b7 b6, b7 hb, f8 b6, f9]; exact (ldA (vs := (b8 a7T)) Tryd.isAgg24 Tryd.sizeOf24 rfl (a6g.atH (a6h hb).2.2.2)))) ?_
          refine W1 (D := fun d7A b4l => ∃ (a3B : Bool) (P0 : Hp) , d7A = (gv (decide ((a7.mk cr_11j1_0 cr_11j1_1 cr_11j1_2 scr_11j1_3).b9 = 7)) true (Value.bool a3B)) ∧ (Inv w0 ps0 H0 P0 [bx L1 24 [(vi (a7.mk cr_11j1_0 cr_11j1_1 cr_11j1_2 scr_11j1_3).b9), (vi (a7.mk cr_11j1_0 cr_11j1_1 cr_11j1_2 scr_11j1_3).g9), (Value.string (a7.mk cr_11j1_0 cr_11j1_1 cr_11j1_2 scr_11j1_3).g1), (Value.slice (a7.mk cr_11j1_0 cr_11j1_1 cr_11j1_2 scr_11j1_3).d8.a (a7.mk cr_11j1_0 cr_11j1_1 cr_11j1_2 scr_11j1_3).d8.n (a7.mk cr_11j1_0 cr_11j1_1 cr_11j1_2 scr_11j1_3).d8.c)], bx g_7 24 (b8 cr_6j1), bx g_2 24 (b8 x0)] b4l) ∧ (∀ i, i < b4n.heap.size → ¬ inF [] i → b4l.heap[i]? = b4n.heap[i]?) ∧ Hle Y9 P0 ∧ ((((decide ((a7.mk cr_11j1_0 cr_11j1_1 cr_11j1_2 scr_11j1_3).b9 = 7)) && a3B) = true →
 (0 : Int) ≤ 0 ∧ (0 : Int) < (a7.mk cr_11j1_0 cr_11j1_1 cr_11j1_2 scr_11j1_3).d8.n ∧ ∃ a4v : a7, EltH P0 (a7.mk cr_11j1_0 cr_11j1_1 cr_11j1_2 scr_11j1_3).d8 0 4 (b8 a4v) ∧
 K a4v P0) ∧
 (((decide ((a7.mk cr_11j1_0 cr_11j1_1 cr_11j1_2 scr_11j1_3).b9 = 7)) && a3B) = false →
 ∃ a5G : a7, (((decide ((a7.mk cr_11j1_0 cr_11j1_1 cr_11j1_2 scr_11j1_3).b9 = 8)) || (decide ((a7.mk cr_11j1_0 cr_11j1_1 cr_11j1_2 scr_11j1_3).b9 = 9))) = true → (0 : Int) ≤ 1 ∧ (1 : Int) < (a7.mk cr_11j1_0 cr_11j1_1 cr_11j1_2 scr_11j1_3).d8.n ∧ EltH P0 (a7.mk cr_11j1_0 cr_11j1_1 cr_11j1_2 scr_11j1_3).d8 1 4 (b8 a5G)) ∧
 TG (((decide ((a7.mk cr_11j1_0 cr_11j1_1 cr_11j1_2 scr_11j1_3).b9 = 8)) || (decide ((a7.mk cr_11j1_0 cr_11j1_1 cr_11j1_2 scr_11j1_3).b9 = 9))) = true) (p7 a5G 1 P0) false P0 (fun (a1z : Bool) (I9 : Hp) =>
 ((((decide ((a7.mk cr_11j1_0 cr_11j1_1 cr_11j1_2 scr_11j1_3).b9 = 8)) || (decide ((a7.mk cr_11j1_0 cr_11j1_1 cr_11j1_2 scr_11j1_3).b9 = 9))) && a1z) = true →
 (0 : Int) ≤ 0 ∧ (0 : Int) < (a7.mk cr_11j1_0 cr_11j1_1 cr_11j1_2 scr_11j1_3).d8.n ∧ ∃ a2v : a7, EltH I9 (a7.mk cr_11j1_0 cr_11j1_1 cr_11j1_2 scr_11j1_3).d8 0 4 (b8 a2v) ∧
 K a2v I9) ∧
 ((((decide ((a7.mk cr_11j1_0 cr_11j1_1 cr_11j1_2 scr_11j1_3).b9 = 8)) || (decide ((a7.mk cr_11j1_0 cr_11j1_1 cr_11j1_2 scr_11j1_3).b9 = 9))) && a1z) = false →
 ∃ a3N : a7, ((decide ((a7.mk cr_11j1_0 cr_11j1_1 cr_11j1_2 scr_11j1_3).b9 = 8)) = true → (0 : Int) ≤ 0 ∧ (0 : Int) < (a7.mk cr_11j1_0 cr_11j1_1 cr_11j1_2 scr_11j1_3).d8.n ∧ EltH I9 (a7.mk cr_11j1_0 cr_11j1_1 cr_11j1_2 scr_11j1_3).d8 0 4 (b8 a3N)) ∧
 TG ((decide ((a7.mk cr_11j1_0 cr_11j1_1 cr_11j1_2 scr_11j1_3).b9 = 8)) = true) (p7 a3N 1 I9) false I9 (fun (X9 : Bool) (R1 : Hp) =>
 (((decide ((a7.mk cr_11j1_0 cr_11j1_1 cr_11j1_2 scr_11j1_3).b9 = 8)) && X9) = true →
 (0 : Int) ≤ 1 ∧ (1 : Int) < (a7.mk cr_11j1_0 cr_11j1_1 cr_11j1_2 scr_11j1_3).d8.n ∧ ∃ a0U : a7, EltH R1 (a7.mk cr_11j1_0 cr_11j1_1 cr_11j1_2 scr_11j1_3).d8 1 4 (b8 a0U) ∧
 K a0U R1) ∧
 (((decide ((a7.mk cr_11j1_0 cr_11j1_1 cr_11j1_2 scr_11j1_3).b9 = 8)) && X9) = false →
 K (a7.mk cr_11j1_0 cr_11j1_1 cr_11j1_2 scr_11j1_3) R1))))))) (fun c0s => ?_) (fun c0s => ?_) ?_
          ·replace h := h.1 c0s
           have b6 := c0s
           try simp only [b7 b6]
           refine f5 (cap := []) (fun args w => Tryd.call72 args w) ?_
           refine i6 (Fi := []) (Fr := [bx L1 24 [(vi (a7.mk cr_11j1_0 cr_11j1_1 cr_11j1_2 scr_11j1_3).b9), (vi (a7.mk cr_11j1_0 cr_11j1_1 cr_11j1_2 scr_11j1_3).g9), (Value.string (a7.mk cr_11j1_0 cr_11j1_1 cr_11j1_2 scr_11j1_3).g1), (Value.slice (a7.mk cr_11j1_0 cr_11j1_1 cr_11j1_2 scr_11j1_3).d8.a (a7.mk cr_11j1_0 cr_11j1_1 cr_11j1_2 scr_11j1_3).d8.n (a7.mk cr_11j1_0 cr_11j1_1 cr_11j1_2 scr_11j1_3).d8.c)], bx g_7 24 (b8 cr_6j1), bx g_2 24 (b8 x0)]) a6g (h) (fun d7A P0 h7Y b4l a4w e6P e6Q h1I => ?_) (fun _ _ _ _ _ q => q.elim)
           obtain ⟨a3B, rfl, rfl, h⟩ := h1I
           exact ⟨a3B, P0, by first | rfl | rw [b7 c0s], a4w, e6Q, e6P, h⟩
          ·exact ⟨false, Y9, by first | rfl | rw [a3k c0s], a6g, fun _ _ _ => rfl, Hle.refl _, h.2 c0s⟩
          ·clear h
           rintro d7A b4l ⟨a3B, P0, rfl, a4w, e6Q, e6P, h⟩
           refine a8 (k9 _ _) ?_
           refine j9 (fun d7B => ?_) (fun d7B => ?_)
           ·replace h := h.1 d7B
            refine a8 i8 ?_
            refine d9 (ld1 Tryd.isAgg22 (a4w.at1 (o := 3) (vs := [(Value.slice (a7.mk cr_11j1_0 cr_11j1_1 cr_11j1_2 scr_11j1_3).d8.a (a7.mk cr_11j1_0 cr_11j1_1 cr_11j1_2 scr_11j1_3).d8.n (a7.mk cr_11j1_0 cr_11j1_1 cr_11j1_2 scr_11j1_3).d8.c)]) (nb rfl) rfl)) ?_
            obtain ⟨h1J, h1K, a4v, d7C, h⟩ := h
            obtain ⟨h7Z, h8a, h1L, d7C⟩ := d7C
            refine a8 (m7 h1L _ _ _ _ h1J h1K) ?_
            refine d9 (ldA (vs := (b8 a4v)) Tryd.isAgg24 Tryd.sizeOf24 rfl (a4w.atH d7C)) ?_
            refine k3 (a4w.bring 1) Tryd.sizeOf24 (vs := (b8 a4v)) (cs' := (b8 a4v)) rfl rfl (nb rfl) rfl rfl fun h8b e6R h8c => ?_
            refine t6 Tryd.isAgg24 Tryd.sizeOf24 rfl (e6R.at1 (o := 0) (vs := (b8 a4v)) (nb rfl) rfl) ?_
            exact hR a4v P0 _ e6R.drop.drop.drop h
           ·replace h := h.2 d7B
            refine a8 m9 ?_
            refine d9 (ld1 Tryd.isAgg3 (a4w.at1 (o := 0) (vs := [(vi (a7.mk cr_11j1_0 cr_11j1_1 cr_11j1_2 scr_11j1_3).b9)]) (nb rfl) rfl)) ?_
            refine a8 (f4 _ _ _ _ _ _) ?_
            refine a8 (Pu.g fun hb => by have b6 := hb; first | exact m9 | (simp only [d7 b6, b7 b6, b7 hb, J1 b6]; exact m9) | (simp only [d7 b6, b7 b6, b7 hb, l9 b6, f9]; exact m9)) ?_
            refine d9 (Ld.g fun hb => by have b6 := hb; first | exact (ld1 Tryd.isAgg3 (a4w.at1 (o := 0) (vs := [(vi (a7.mk cr_11j1_0 cr_11j1_1 cr_11j1_2 scr_11j1_3).b9)]) (nb rfl) rfl)) | (simp only [b7 b6]; exact (ld1 Tryd.isAgg3 (a4w.at1 (o := 0) (vs := [(vi (a7.mk cr_11j1_0 cr_11j1_1 cr_11j1_2 scr_11j1_3).b9)]) (nb rfl) rfl))) | (simp only [d7 b6, b7 b6, b7 hb, l9 b6, f9]; exact (ld1 Tryd.isAgg3 (a4w.at1 (o := 0) (vs := [(vi (a7.mk cr_11j1_0 cr_11j1_1 cr_11j1_2 scr_11j1_3).b9)]) (nb rfl) rfl)))) ?_
            refine a8 (Pu.g fun hb => by have b6 := hb; first | exact (f4 _ _ _ _ _ _) | (simp only [b7 b6]; exact (f4 _ _ _ _ _ _)) | (simp only [d7 b6, b7 b6, b7 hb, l9 b6, f9]; exact (f4 _ _ _ _ _ _))) ?_
            refine a8 (A5 _ _) ?_
            refine a8 (Pu.g fun hb => by have b6 := hb; first | exact i8 | (simp only [d7 b6, b7 b6, b7 hb, m8 b6]; exact i8) | (simp only [d7 b6, b7 b6, b7 hb, f8 b6, f9]; exact i8)) ?_
            refine d9 (Ld.g fun hb => by have b6 := hb; first | exact (ld1 Tryd.isAgg22 (a4w.at1 (o := 3) (vs := [(Value.slice (a7.mk cr_11j1_0 cr_11j1_1 cr_11j1_2 scr_11j1_3).d8.a (a7.mk cr_11j1_0 cr_11j1_1 cr_11j1_2 scr_11j1_3).d8.n (a7.mk cr_11j1_0 cr_11j1_1 cr_11j1_2 scr_11j1_3).d8.c)]) (nb rfl) rfl)) | (simp only [b7 b6]; exact (ld1 Tryd.isAgg22 (a4w.at1 (o := 3) (vs := [(Value.slice (a7.mk cr_11j1_0 cr_11j1_1 cr_11j1_2 scr_11j1_3).d8.a (a7.mk cr_11j1_0 cr_11j1_1 cr_11j1_2 scr_11j1_3).d8.n (a7.mk cr_11j1_0 cr_11j1_1 cr_11j1_2 scr_11j1_3).d8.c)]) (nb rfl) rfl))) | (simp only [d7 b6, b7 b6, b7 hb, f8 b6, f9]; exact (ld1 Tryd.isAgg22 (a4w.at1 (o := 3) (vs := [(Value.slice (a7.mk cr_11j1_0 cr_11j1_1 cr_11j1_2 scr_11j1_3).d8.a (a7.mk cr_11j1_0 cr_11j1_1 cr_11j1_2 scr_11j1_3).d8.n (a7.mk cr_11j1_0 cr_11j1_1 cr_11j1_2 scr_11j1_3).d8.c)]) (nb rfl) rfl)))) ?_
            obtain ⟨a5G, a3O, h⟩ := h
            obtain ⟨h8d, h8e, a3O⟩ := b0p a3O
            refine a8 (Pu.g fun hb => by have b6 := hb; first | exact (m7 (a3O hb).2.2.1 _ _ _ _ (a3O hb).1 (a3O hb).2.1) | (simp only [b7 b6]; exact (m7 (a3O hb).2.2.1 _ _ _ _ (a3O hb).1 (a3O hb).2.1)) | (simp only [d7 b6, b7 b6, b7 hb, f8 b6, f9]; exact (m7 (a3O hb).2.2.1 _ _ _ _ (a3O hb).1 (a3O hb).2.1))) ?_
            refine d9 (Ld.g fun hb => by have b6 := hb; first | exact (ldA (vs := (b8 a5G)) Tryd.isAgg24 Tryd.sizeOf24 rfl (a4w.atH (a3O hb).2.2.2)) | (simp only [b7 b6]; exact (ldA (vs := (b8 a5G)) Tryd.isAgg24 Tryd.sizeOf24 rfl (a4w.atH (a3O hb).2.2.2))) | (simp only [d7 b6, b7 b6, b7 hb, f8 b6, f9]; exact (ldA (vs := (b8 a5G)) Tryd.isAgg24 Tryd.sizeOf24 rfl (a4w.atH (a3O hb).2.2.2)))) ?_
            refine W1 (D := fun d7D b4m => ∃ (a1z : Bool) (I9 : Hp) , d7D = (gv ((decide ((a7.mk cr_11j1_0 cr_11j1_1 cr_11j1_2 scr_11j1_3).b9 = 8)) || (decide ((a7.mk cr_11j1_0 cr_11j1_1 cr_11j1_2 scr_11j1_3).b9 = 9))) true (Value.bool a1z)) ∧ (Inv w0 ps0 H0 I9 [bx L1 24 [(vi (a7.mk cr_11j1_0 cr_11j1_1 cr_11j1_2 scr_11j1_3).b9), (vi (a7.mk cr_11j1_0 cr_11j1_1 cr_11j1_2 scr_11j1_3).g9), (Value.string (a7.mk cr_11j1_0 cr_11j1_1 cr_11j1_2 scr_11j1_3).g1), (Value.slice (a7.mk cr_11j1_0 cr_11j1_1 cr_11j1_2 scr_11j1_3).d8.a (a7.mk cr_11j1_0 cr_11j1_1 cr_11j1_2 scr_11j1_3).d8.n (a7.mk cr_11j1_0 cr_11j1_1 cr_11j1_2 scr_11j1_3).d8.c)], bx g_7 24 (b8 cr_6j1), bx g_2 24 (b8 x0)] b4m) ∧ (∀ i, i < b4l.heap.size → ¬ inF [] i → b4m.heap[i]? = b4l.heap[i]?) ∧ Hle P0 I9 ∧ (((((decide ((a7.mk cr_11j1_0 cr_11j1_1 cr_11j1_2 scr_11j1_3).b9 = 8)) || (decide ((a7.mk cr_11j1_0 cr_11j1_1 cr_11j1_2 scr_11j1_3).b9 = 9))) && a1z) = true →
 (0 : Int) ≤ 0 ∧ (0 : Int) < (a7.mk cr_11j1_0 cr_11j1_1 cr_11j1_2 scr_11j1_3).d8.n ∧ ∃ a2v : a7, EltH I9 (a7.mk cr_11j1_0 cr_11j1_1 cr_11j1_2 scr_11j1_3).d8 0 4 (b8 a2v) ∧
 K a2v I9) ∧
 ((((decide ((a7.mk cr_11j1_0 cr_11j1_1 cr_11j1_2 scr_11j1_3).b9 = 8)) || (decide ((a7.mk cr_11j1_0 cr_11j1_1 cr_11j1_2 scr_11j1_3).b9 = 9))) && a1z) = false →
 ∃ a3N : a7, ((decide ((a7.mk cr_11j1_0 cr_11j1_1 cr_11j1_2 scr_11j1_3).b9 = 8)) = true → (0 : Int) ≤ 0 ∧ (0 : Int) < (a7.mk cr_11j1_0 cr_11j1_1 cr_11j1_2 scr_11j1_3).d8.n ∧ EltH I9 (a7.mk cr_11j1_0 cr_11j1_1 cr_11j1_2 scr_11j1_3).d8 0 4 (b8 a3N)) ∧
 TG ((decide ((a7.mk cr_11j1_0 cr_11j1_1 cr_11j1_2 scr_11j1_3).b9 = 8)) = true) (p7 a3N 1 I9) false I9 (fun (X9 : Bool) (R1 : Hp) =>
 (((decide ((a7.mk cr_11j1_0 cr_11j1_1 cr_11j1_2 scr_11j1_3).b9 = 8)) && X9) = true →
 (0 : Int) ≤ 1 ∧ (1 : Int) < (a7.mk cr_11j1_0 cr_11j1_1 cr_11j1_2 scr_11j1_3).d8.n ∧ ∃ a0U : a7, EltH R1 (a7.mk cr_11j1_0 cr_11j1_1 cr_11j1_2 scr_11j1_3).d8 1 4 (b8 a0U) ∧
 K a0U R1) ∧
 (((decide ((a7.mk cr_11j1_0 cr_11j1_1 cr_11j1_2 scr_11j1_3).b9 = 8)) && X9) = false →
 K (a7.mk cr_11j1_0 cr_11j1_1 cr_11j1_2 scr_11j1_3) R1))))) (fun c0t => ?_) (fun c0t => ?_) ?_
            ·replace h := h.1 c0t
             have b6 := c0t
             try simp only [b7 b6]
             refine f5 (cap := []) (fun args w => Tryd.call72 args w) ?_
             refine i6 (Fi := []) (Fr := [bx L1 24 [(vi (a7.mk cr_11j1_0 cr_11j1_1 cr_11j1_2 scr_11j1_3).b9), (vi (a7.mk cr_11j1_0 cr_11j1_1 cr_11j1_2 scr_11j1_3).g9), (Value.string (a7.mk cr_11j1_0 cr_11j1_1 cr_11j1_2 scr_11j1_3).g1), (Value.slice (a7.mk cr_11j1_0 cr_11j1_1 cr_11j1_2 scr_11j1_3).d8.a (a7.mk cr_11j1_0 cr_11j1_1 cr_11j1_2 scr_11j1_3).d8.n (a7.mk cr_11j1_0 cr_11j1_1 cr_11j1_2 scr_11j1_3).d8.c)], bx g_7 24 (b8 cr_6j1), bx g_2 24 (b8 x0)]) a4w (h) (fun d7D I9 h8f b4m a6i e6S e6T h1M => ?_) (fun _ _ _ _ _ q => q.elim)
             obtain ⟨a1z, rfl, rfl, h⟩ := h1M
             exact ⟨a1z, I9, by first | rfl | rw [b7 c0t], a6i, e6T, e6S, h⟩
            ·exact ⟨false, P0, by first | rfl | rw [a3k c0t], a4w, fun _ _ _ => rfl, Hle.refl _, h.2 c0t⟩
            ·clear h
             rintro d7D b4m ⟨a1z, I9, rfl, a6i, e6T, e6S, h⟩
             refine a8 (k9 _ _) ?_
             refine j9 (fun d7E => ?_) (fun d7E => ?_)
             ·replace h := h.1 d7E
              refine a8 i8 ?_
              refine d9 (ld1 Tryd.isAgg22 (a6i.at1 (o := 3) (vs := [(Value.slice (a7.mk cr_11j1_0 cr_11j1_1 cr_11j1_2 scr_11j1_3).d8.a (a7.mk cr_11j1_0 cr_11j1_1 cr_11j1_2 scr_11j1_3).d8.n (a7.mk cr_11j1_0 cr_11j1_1 cr_11j1_2 scr_11j1_3).d8.c)]) (nb rfl) rfl)) ?_
              obtain ⟨h1N, h1O, a2v, d7F, h⟩ := h
              obtain ⟨h8g, h8h, h1P, d7F⟩ := d7F
              refine a8 (m7 h1P _ _ _ _ h1N h1O) ?_
              refine d9 (ldA (vs := (b8 a2v)) Tryd.isAgg24 Tryd.sizeOf24 rfl (a6i.atH d7F)) ?_
              refine k3 (a6i.bring 1) Tryd.sizeOf24 (vs := (b8 a2v)) (cs' := (b8 a2v)) rfl rfl (nb rfl) rfl rfl fun h8i e6U h8j => ?_
              refine t6 Tryd.isAgg24 Tryd.sizeOf24 rfl (e6U.at1 (o := 0) (vs := (b8 a2v)) (nb rfl) rfl) ?_
              exact hR a2v I9 _ e6U.drop.drop.drop h
             ·replace h := h.2 d7E
              refine a8 m9 ?_
              refine d9 (ld1 Tryd.isAgg3 (a6i.at1 (o := 0) (vs := [(vi (a7.mk cr_11j1_0 cr_11j1_1 cr_11j1_2 scr_11j1_3).b9)]) (nb rfl) rfl)) ?_
              refine a8 (f4 _ _ _ _ _ _) ?_
              refine a8 (Pu.g fun hb => by have b6 := hb; first | exact i8 | (simp only [d7 b6, b7 b6, b7 hb, m8 b6]; exact i8) | (simp only [d7 b6, b7 b6, b7 hb, f8 b6, f9]; exact i8)) ?_
              refine d9 (Ld.g fun hb => by have b6 := hb; first | exact (ld1 Tryd.isAgg22 (a6i.at1 (o := 3) (vs := [(Value.slice (a7.mk cr_11j1_0 cr_11j1_1 cr_11j1_2 scr_11j1_3).d8.a (a7.mk cr_11j1_0 cr_11j1_1 cr_11j1_2 scr_11j1_3).d8.n (a7.mk cr_11j1_0 cr_11j1_1 cr_11j1_2 scr_11j1_3).d8.c)]) (nb rfl) rfl)) | (simp only [b7 b6]; exact (ld1 Tryd.isAgg22 (a6i.at1 (o := 3) (vs := [(Value.slice (a7.mk cr_11j1_0 cr_11j1_1 cr_11j1_2 scr_11j1_3).d8.a (a7.mk cr_11j1_0 cr_11j1_1 cr_11j1_2 scr_11j1_3).d8.n (a7.mk cr_11j1_0 cr_11j1_1 cr_11j1_2 scr_11j1_3).d8.c)]) (nb rfl) rfl))) | (simp only [d7 b6, b7 b6, b7 hb, f8 b6, f9]; exact (ld1 Tryd.isAgg22 (a6i.at1 (o := 3) (vs := [(Value.slice (a7.mk cr_11j1_0 cr_11j1_1 cr_11j1_2 scr_11j1_3).d8.a (a7.mk cr_11j1_0 cr_11j1_1 cr_11j1_2 scr_11j1_3).d8.n (a7.mk cr_11j1_0 cr_11j1_1 cr_11j1_2 scr_11j1_3).d8.c)]) (nb rfl) rfl)))) ?_
              obtain ⟨a3N, a6j, h⟩ := h
              obtain ⟨h8k, h8l, a6j⟩ := b0p a6j
              refine a8 (Pu.g fun hb => by have b6 := hb; first | exact (m7 (a6j hb).2.2.1 _ _ _ _ (a6j hb).1 (a6j hb).2.1) | (simp only [b7 b6]; exact (m7 (a6j hb).2.2.1 _ _ _ _ (a6j hb).1 (a6j hb).2.1)) | (simp only [d7 b6, b7 b6, b7 hb, f8 b6, f9]; exact (m7 (a6j hb).2.2.1 _ _ _ _ (a6j hb).1 (a6j hb).2.1))) ?_
              refine d9 (Ld.g fun hb => by have b6 := hb; first | exact (ldA (vs := (b8 a3N)) Tryd.isAgg24 Tryd.sizeOf24 rfl (a6i.atH (a6j hb).2.2.2)) | (simp only [b7 b6]; exact (ldA (vs := (b8 a3N)) Tryd.isAgg24 Tryd.sizeOf24 rfl (a6i.atH (a6j hb).2.2.2))) | (simp only [d7 b6, b7 b6, b7 hb, f8 b6, f9]; exact (ldA (vs := (b8 a3N)) Tryd.isAgg24 Tryd.sizeOf24 rfl (a6i.atH (a6j hb).2.2.2)))) ?_
              refine W1 (D := fun d7G c7r => ∃ (X9 : Bool) (R1 : Hp) , d7G = (gv (decide ((a7.mk cr_11j1_0 cr_11j1_1 cr_11j1_2 scr_11j1_3).b9 = 8)) true (Value.bool X9)) ∧ (Inv w0 ps0 H0 R1 [bx L1 24 [(vi (a7.mk cr_11j1_0 cr_11j1_1 cr_11j1_2 scr_11j1_3).b9), (vi (a7.mk cr_11j1_0 cr_11j1_1 cr_11j1_2 scr_11j1_3).g9), (Value.string (a7.mk cr_11j1_0 cr_11j1_1 cr_11j1_2 scr_11j1_3).g1), (Value.slice (a7.mk cr_11j1_0 cr_11j1_1 cr_11j1_2 scr_11j1_3).d8.a (a7.mk cr_11j1_0 cr_11j1_1 cr_11j1_2 scr_11j1_3).d8.n (a7.mk cr_11j1_0 cr_11j1_1 cr_11j1_2 scr_11j1_3).d8.c)], bx g_7 24 (b8 cr_6j1), bx g_2 24 (b8 x0)] c7r) ∧ (∀ i, i < b4m.heap.size → ¬ inF [] i → c7r.heap[i]? = b4m.heap[i]?) ∧ Hle I9 R1 ∧ ((((decide ((a7.mk cr_11j1_0 cr_11j1_1 cr_11j1_2 scr_11j1_3).b9 = 8)) && X9) = true →
 (0 : Int) ≤ 1 ∧ (1 : Int) < (a7.mk cr_11j1_0 cr_11j1_1 cr_11j1_2 scr_11j1_3).d8.n ∧ ∃ a0U : a7, EltH R1 (a7.mk cr_11j1_0 cr_11j1_1 cr_11j1_2 scr_11j1_3).d8 1 4 (b8 a0U) ∧
 K a0U R1) ∧
 (((decide ((a7.mk cr_11j1_0 cr_11j1_1 cr_11j1_2 scr_11j1_3).b9 = 8)) && X9) = false →
 K (a7.mk cr_11j1_0 cr_11j1_1 cr_11j1_2 scr_11j1_3) R1))) (fun c0u => ?_) (fun c0u => ?_) ?_
              ·replace h := h.1 c0u
               have b6 := c0u
               try simp only [b7 b6]
               refine f5 (cap := []) (fun args w => Tryd.call72 args w) ?_
               refine i6 (Fi := []) (Fr := [bx L1 24 [(vi (a7.mk cr_11j1_0 cr_11j1_1 cr_11j1_2 scr_11j1_3).b9), (vi (a7.mk cr_11j1_0 cr_11j1_1 cr_11j1_2 scr_11j1_3).g9), (Value.string (a7.mk cr_11j1_0 cr_11j1_1 cr_11j1_2 scr_11j1_3).g1), (Value.slice (a7.mk cr_11j1_0 cr_11j1_1 cr_11j1_2 scr_11j1_3).d8.a (a7.mk cr_11j1_0 cr_11j1_1 cr_11j1_2 scr_11j1_3).d8.n (a7.mk cr_11j1_0 cr_11j1_1 cr_11j1_2 scr_11j1_3).d8.c)], bx g_7 24 (b8 cr_6j1), bx g_2 24 (b8 x0)]) a6i (h) (fun d7G R1 h8m c7r b7E e6V e6W h1Q => ?_) (fun _ _ _ _ _ q => q.elim)
               obtain ⟨X9, rfl, rfl, h⟩ := h1Q
               exact ⟨X9, R1, by first | rfl | rw [b7 c0u], b7E, e6W, e6V, h⟩
              ·exact ⟨false, I9, by first | rfl | rw [a3k c0u], a6i, fun _ _ _ => rfl, Hle.refl _, h.2 c0u⟩
              ·clear h
               rintro d7G c7r ⟨X9, R1, rfl, b7E, e6W, e6V, h⟩
               refine a8 (k9 _ _) ?_
               refine j9 (fun d7H => ?_) (fun d7H => ?_)
               ·replace h := h.1 d7H
                refine a8 i8 ?_
                refine d9 (ld1 Tryd.isAgg22 (b7E.at1 (o := 3) (vs := [(Value.slice (a7.mk cr_11j1_0 cr_11j1_1 cr_11j1_2 scr_11j1_3).d8.a (a7.mk cr_11j1_0 cr_11j1_1 cr_11j1_2 scr_11j1_3).d8.n (a7.mk cr_11j1_0 cr_11j1_1 cr_11j1_2 scr_11j1_3).d8.c)]) (nb rfl) rfl)) ?_
                obtain ⟨h1R, h1S, a0U, d7I, h⟩ := h
                obtain ⟨h8n, h8o, h1T, d7I⟩ := d7I
                refine a8 (m7 h1T _ _ _ _ h1R h1S) ?_
                refine d9 (ldA (vs := (b8 a0U)) Tryd.isAgg24 Tryd.sizeOf24 rfl (b7E.atH d7I)) ?_
                refine k3 (b7E.bring 1) Tryd.sizeOf24 (vs := (b8 a0U)) (cs' := (b8 a0U)) rfl rfl (nb rfl) rfl rfl fun e6l e6X h8p => ?_
                refine t6 Tryd.isAgg24 Tryd.sizeOf24 rfl (e6X.at1 (o := 0) (vs := (b8 a0U)) (nb rfl) rfl) ?_
                exact hR a0U R1 _ e6X.drop.drop.drop h
               ·replace h := h.2 d7H
                refine d9 (ldA Tryd.isAgg24 Tryd.sizeOf24 rfl (b7E.at1 (o := 0) (vs := [(vi (a7.mk cr_11j1_0 cr_11j1_1 cr_11j1_2 scr_11j1_3).b9), (vi (a7.mk cr_11j1_0 cr_11j1_1 cr_11j1_2 scr_11j1_3).g9), (Value.string (a7.mk cr_11j1_0 cr_11j1_1 cr_11j1_2 scr_11j1_3).g1), (Value.slice (a7.mk cr_11j1_0 cr_11j1_1 cr_11j1_2 scr_11j1_3).d8.a (a7.mk cr_11j1_0 cr_11j1_1 cr_11j1_2 scr_11j1_3).d8.n (a7.mk cr_11j1_0 cr_11j1_1 cr_11j1_2 scr_11j1_3).d8.c)]) (nb rfl) rfl)) ?_
                refine k3 (b7E.bring 1) Tryd.sizeOf24 (vs := [(vi (a7.mk cr_11j1_0 cr_11j1_1 cr_11j1_2 scr_11j1_3).b9), (vi (a7.mk cr_11j1_0 cr_11j1_1 cr_11j1_2 scr_11j1_3).g9), (Value.string (a7.mk cr_11j1_0 cr_11j1_1 cr_11j1_2 scr_11j1_3).g1), (Value.slice (a7.mk cr_11j1_0 cr_11j1_1 cr_11j1_2 scr_11j1_3).d8.a (a7.mk cr_11j1_0 cr_11j1_1 cr_11j1_2 scr_11j1_3).d8.n (a7.mk cr_11j1_0 cr_11j1_1 cr_11j1_2 scr_11j1_3).d8.c)]) (cs' := [(vi (a7.mk cr_11j1_0 cr_11j1_1 cr_11j1_2 scr_11j1_3).b9), (vi (a7.mk cr_11j1_0 cr_11j1_1 cr_11j1_2 scr_11j1_3).g9), (Value.string (a7.mk cr_11j1_0 cr_11j1_1 cr_11j1_2 scr_11j1_3).g1), (Value.slice (a7.mk cr_11j1_0 cr_11j1_1 cr_11j1_2 scr_11j1_3).d8.a (a7.mk cr_11j1_0 cr_11j1_1 cr_11j1_2 scr_11j1_3).d8.n (a7.mk cr_11j1_0 cr_11j1_1 cr_11j1_2 scr_11j1_3).d8.c)]) rfl rfl (nb rfl) rfl rfl fun h8q c4i e6Y => ?_
                refine t6 Tryd.isAgg24 Tryd.sizeOf24 rfl (c4i.at1 (o := 0) (vs := [(vi (a7.mk cr_11j1_0 cr_11j1_1 cr_11j1_2 scr_11j1_3).b9), (vi (a7.mk cr_11j1_0 cr_11j1_1 cr_11j1_2 scr_11j1_3).g9), (Value.string (a7.mk cr_11j1_0 cr_11j1_1 cr_11j1_2 scr_11j1_3).g1), (Value.slice (a7.mk cr_11j1_0 cr_11j1_1 cr_11j1_2 scr_11j1_3).d8.a (a7.mk cr_11j1_0 cr_11j1_1 cr_11j1_2 scr_11j1_3).d8.n (a7.mk cr_11j1_0 cr_11j1_1 cr_11j1_2 scr_11j1_3).d8.c)]) (nb rfl) rfl) ?_
                exact hR (a7.mk cr_11j1_0 cr_11j1_1 cr_11j1_2 scr_11j1_3) R1 _ c4i.drop.drop.drop h
     refine s8 fun j3 hx3 => ?_
     refine j9 (fun d7J => ?_) (fun d7J => ?_)
     ·replace h := h.1 d7J
      refine a8 m9 ?_
      refine d9 (ld1 Tryd.isAgg3 (I.at1 (o := 0) (vs := [(vi (a7.mk cr_11j1_0 cr_11j1_1 cr_11j1_2 scr_11j1_3).b9)]) (nb rfl) rfl)) ?_
      refine f5 (cap := []) (fun args w => Tryd.call71 args w) ?_
      refine i6 (Fi := []) (Fr := [bx L1 24 [(vi (a7.mk cr_11j1_0 cr_11j1_1 cr_11j1_2 scr_11j1_3).b9), (vi (a7.mk cr_11j1_0 cr_11j1_1 cr_11j1_2 scr_11j1_3).g9), (Value.string (a7.mk cr_11j1_0 cr_11j1_1 cr_11j1_2 scr_11j1_3).g1), (Value.slice (a7.mk cr_11j1_0 cr_11j1_1 cr_11j1_2 scr_11j1_3).d8.a (a7.mk cr_11j1_0 cr_11j1_1 cr_11j1_2 scr_11j1_3).d8.n (a7.mk cr_11j1_0 cr_11j1_1 cr_11j1_2 scr_11j1_3).d8.c)], bx g_7 24 (b8 cr_6j1), bx g_2 24 (b8 x0)]) I (h) (fun h8r c7o h8s a7c e6Z h8t h8u h1U => ?_) (fun _ _ _ _ _ q => q.elim)
      obtain ⟨b9r, c4f, rfl, rfl, h⟩ := h1U
      refine a8 (i4 _ _ (vi b9r) rfl) ?_
      refine a8 (i4 _ _ (vi c4f) rfl) ?_
      refine a8 (f4 _ _ _ _ _ _) ?_
      try simp only [m4]
      refine a8 (Pu.g fun hb => by have b6 := hb; first | exact (o4 _ _ _ _ _ _) | (simp only [b7 b6]; exact (o4 _ _ _ _ _ _)) | (simp only [d7 b6, b7 b6, b7 hb, f8 b6, f9]; exact (o4 _ _ _ _ _ _))) ?_
      refine a8 (k9 _ _) ?_
      refine j9 (fun b7F => ?_) (fun b7F => ?_)
      ·replace h := h.1 b7F
       refine f5 (cap := []) (fun args w => Tryd.call70 args w) ?_
       refine i6 (Fi := []) (Fr := [bx L1 24 [(vi (a7.mk cr_11j1_0 cr_11j1_1 cr_11j1_2 scr_11j1_3).b9), (vi (a7.mk cr_11j1_0 cr_11j1_1 cr_11j1_2 scr_11j1_3).g9), (Value.string (a7.mk cr_11j1_0 cr_11j1_1 cr_11j1_2 scr_11j1_3).g1), (Value.slice (a7.mk cr_11j1_0 cr_11j1_1 cr_11j1_2 scr_11j1_3).d8.a (a7.mk cr_11j1_0 cr_11j1_1 cr_11j1_2 scr_11j1_3).d8.n (a7.mk cr_11j1_0 cr_11j1_1 cr_11j1_2 scr_11j1_3).d8.c)], bx g_7 24 (b8 cr_6j1), bx g_2 24 (b8 x0)]) e6Z (h) (fun h8v d7o h8w h8x h1V h8y h8z h1W => ?_) (fun _ _ _ _ _ q => q.elim)
       obtain ⟨b6a, rfl, rfl, h⟩ := h1W
       refine k3 (h1V.bring 1) Tryd.sizeOf24 (vs := (b8 b6a)) (cs' := (b8 b6a)) rfl rfl (nb rfl) rfl rfl fun h8A e7a h8B => ?_
       refine t6 Tryd.isAgg24 Tryd.sizeOf24 rfl (e7a.at1 (o := 0) (vs := (b8 b6a)) (nb rfl) rfl) ?_
       exact hR b6a d7o _ e7a.drop.drop.drop h
      ·replace h := h.2 b7F
       exact hx3 _ _ (hj3 c7o _ (((e6Z.bring 2).bring 2).bring 2) h)
     ·replace h := h.2 d7J
      exact hx3 _ _ (hj3 H _ (((I.bring 2).bring 2).bring 2) h)
    refine s8 fun j2 hx2 => ?_
    refine a8 i8 ?_
    refine d9 (ld1 Tryd.isAgg22 (c2C.at1 (o := 3) (vs := [(vs scr_11j1_3)]) (nb rfl) rfl)) ?_
    refine a8 (q6 _ _ _) ?_
    refine a8 (f4 _ _ _ _ _ _) ?_
    refine g8 (fun d7K => ?_) (fun d7K => ?_)
    ·replace h := h.1 d7K
     refine a8 i8 ?_
     refine d9 (ld1 Tryd.isAgg22 (c2C.at1 (o := 3) (vs := [(vs scr_11j1_3)]) (nb rfl) rfl)) ?_
     obtain ⟨h1X, h1Y, d7r, c0e, h⟩ := h
     obtain ⟨h1C, h8C, c7f, c0e⟩ := c0e
     refine a8 (m7 c7f _ _ _ _ h1X h1Y) ?_
     refine d9 (ldA (vs := (b8 d7r)) Tryd.isAgg24 Tryd.sizeOf24 rfl (c2C.atH c0e)) ?_
     refine f5 (cap := []) (fun args w => Tryd.call69 args w) ?_
     refine i6 (Fi := []) (Fr := [bx L1 24 [(vi cr_11j1_0), (vi cr_11j1_1), (Value.string cr_11j1_2), (vs scr_11j1_3)], bx g_7 24 (b8 cr_6j1), bx g_2 24 (b8 x0)]) c2C (h) (fun h8D d7s h8E b7r h1Z c6M h8F h2a => ?_) (fun _ _ _ _ _ q => q.elim)
     obtain ⟨c4g, c4h, rfl, rfl, h⟩ := h2a
     refine a8 (i4 _ _ (vi c4g) rfl) ?_
     refine a8 (i4 _ _ (Value.bool c4h) rfl) ?_
     try simp only [m4]
     refine a8 (k9 _ _) ?_
     exact hx2 _ _ (hj2 (a7k && c4h) c4g d7s _ (((h1Z.bring 2).bring 2).bring 2) h)
    ·replace h := h.2 d7K
     exact hx2 _ _ (hj2 a7k 0 b3x _ (((c2C.bring 2).bring 2).bring 2) h)
 refine s8 fun j1 hx1 => ?_
 obtain ⟨d7L, c4j, h2b, h2c⟩ := h
 refine I0 (J := fun n l w => ∃ (s : Int × Int × Int × ByteArray × (List a7) × a7) (H : Hp) (scr_11l4_3 : Sl) (Fcr_11l4_3 : Frag) , n = c4j s ∧ l = (match s with | (a7C, cr_11l4_0, cr_11l4_1, cr_11l4_2, ccr_11l4_3, cr_6l4) => [(vi a7C)]) ∧ (match s with | (a7C, cr_11l4_0, cr_11l4_1, cr_11l4_2, ccr_11l4_3, cr_6l4) => RowL 24 4 b8 scr_11l4_3 ccr_11l4_3 Fcr_11l4_3) ∧ (match s with | (a7C, cr_11l4_0, cr_11l4_1, cr_11l4_2, ccr_11l4_3, cr_6l4) => Inv w0 ps0 H0 H [bx L1 24 [(vi cr_11l4_0), (vi cr_11l4_1), (Value.string cr_11l4_2), (vs scr_11l4_3)], bx g_7 24 (b8 cr_6l4), bx g_2 24 (b8 x0), Fcr_11l4_3] w) ∧ d7L s H) ⟨_, (0, x0.b9, x0.g9, x0.g1, [], (a7.mk 0 0 ⟨#[]⟩ (Sl.mk none 0 0))), H, (Sl.mk none 0 0), [], rfl, rfl, (RowL.nil P7 P8), (((b4N.nil.bring 3).bring 3).bring 3), h2b⟩ ?_
 rintro h8G τ_334 w next4 ⟨⟨a7C, cr_11l4_0, cr_11l4_1, cr_11l4_2, ccr_11l4_3, cr_6l4⟩, H, scr_11l4_3, Fcr_11l4_3, rfl, d7M, hcr_11l4_3, I, h2d⟩ hn4
 dsimp only at d7M I hcr_11l4_3
 simp only [List.map_cons, List.map_nil, List.cons.injEq, and_true] at d7M
 have e4 := d7M
 simp only [e4]
 obtain ⟨n4, hm4, h⟩ : ∃ n4 : (Int × Int × Int × ByteArray × (List a7) × a7) → Hp → Prop, (∀ s' H', n4 s' H' → d7L s' H' ∧ c4j s' < c4j (a7C, cr_11l4_0, cr_11l4_1, cr_11l4_2, ccr_11l4_3, cr_6l4)) ∧ V6 x0 a7C cr_11l4_0 cr_11l4_1 cr_11l4_2 ccr_11l4_3 cr_6l4 H n4 K := ⟨_, fun _ _ h => h, h2c (a7C, cr_11l4_0, cr_11l4_1, cr_11l4_2, ccr_11l4_3, cr_6l4) H (fun s' H' => d7L s' H' ∧ c4j s' < c4j (a7C, cr_11l4_0, cr_11l4_1, cr_11l4_2, ccr_11l4_3, cr_6l4)) h2d (fun _ _ a b => ⟨a, b⟩)⟩
 unfold e0u
 unfold V6 at h
 refine a8 i8 ?_
 refine d9 (ld1 Tryd.isAgg22 ((I.bring 2).at1 (o := 3) (vs := [(vs x0.d8)]) (nb rfl) rfl)) ?_
 refine a8 (q6 _ _ _) ?_
 refine a8 (o3 _ _ _ _ _ _) ?_
 refine g8 (fun d7N => ?_) (fun d7N => ?_)
 ·replace h := h.1 d7N
  refine a9F I fun d6s c0v => ?_
  refine t1 i8 ?_
  refine t1 i8 ?_
  refine G8 (ld1 Tryd.isAgg22 (c0v.at1 (o := 3) (vs := [(vs scr_11l4_3)]) (nb rfl) rfl)) ?_
  refine G8 (ld1 Tryd.isAgg22 ((c0v.bring 2).at1 (o := 3) (vs := [(vs x0.d8)]) (nb rfl) rfl)) ?_
  obtain ⟨h2e, h2f, c7q, d7O, h⟩ := h
  obtain ⟨h8H, h8I, h2g, d7O⟩ := d7O
  refine t1 (m7 h2g _ _ _ _ h2e h2f) ?_
  refine G8 (ldA (vs := (b8 c7q)) Tryd.isAgg24 Tryd.sizeOf24 rfl (c0v.atH d7O)) ?_
  refine f5 (cap := []) (fun args w => Tryd.call40 args w) ?_
  refine i6 (Fi := []) (Fr := [bx L1 24 [(vi cr_11l4_0), (vi cr_11l4_1), (Value.string cr_11l4_2), (vs scr_11l4_3)], bx g_7 24 (b8 cr_6l4), bx g_2 24 (b8 x0), Fcr_11l4_3]) c0v (h) (fun h8J d7t h8K h8L e7b h8M h2h h2i => ?_) (fun _ _ _ _ _ q => q.elim)
  obtain ⟨b9s, rfl, rfl, h⟩ := h2i
  refine ⟨(h2h _ c0v.lt1 (Inv.a5J (Fi := []) c0v)), ?_⟩
  refine a5R (e := 24) (c := b8) (xs := [b9s]) e7b (b5m _ _ _ _ _ _) rfl rfl P7 P8 (nb rfl) fun h8N h8O h8P h2j e7c h2k => ?_
  refine ⟨(h2k _ e7b.lt1), ?_⟩
  obtain ⟨h2l, h⟩ := h
  refine c7I (s := scr_11l4_3) (xs := ccr_11l4_3) (e7c.bring 4) hcr_11l4_3 (h2j.srcO ((e7c.bring 4).bring 1)) h2l fun d7P h2m h8Q h2n h2o h8R => ?_
  refine t1 i8 ?_
  refine k3 ((h2o.bring 1).drop.bring 1) Tryd.sizeOf22 (vs := [(vs d7P)]) (cs' := [(vi cr_11l4_0), (vi cr_11l4_1), (Value.string cr_11l4_2), (vs d7P)]) rfl rfl (nb rfl) rfl rfl fun h8S d7Q h2p => ?_
  refine a8 (s9 _ _ _ _ _ _) ?_
  exact hn4 _ _ _ (hm4 _ _ h).2 ⟨((IntKind.wrap .i64 (a7C + 1)), cr_11l4_0, cr_11l4_1, cr_11l4_2, (ccr_11l4_3 ++ [b9s]), cr_6l4), d7t, d7P, h2m, rfl, rfl, h2n, ((((d7Q.bring 1).bring 3).bring 3).bring 3), (hm4 _ _ h).1⟩
 ·replace h := h.2 d7N
  exact hx1 _ _ (hj1 cr_11l4_0 cr_11l4_1 cr_11l4_2 ccr_11l4_3 cr_6l4 scr_11l4_3 Fcr_11l4_3 H _ hcr_11l4_3 ((((I.bring 3).bring 3).bring 3).bring 3) h)
theorem b1E (x0 : a7) {H : Hp} {K : a7 → Hp → Prop} (h : a0l x0 H K) : R8 x0 H K := by
 intro w I
 refine g5T ?_
 refine b0X x0 I (fun r0 H' w' I' hk => ⟨H', _, I', r0, rfl, rfl, hk⟩) h
def a0m (x0 : a7) (H : Hp) (K : a7 → Int → Hp → Prop) : Prop :=
 a3s x0 H (fun (k4 : Int) (a1P : Hp) =>
 (¬ (k4 = 0) →
 K (a7.mk 0 0 ⟨#[]⟩ (Sl.mk none 0 0)) k4 a1P) ∧
 (k4 = 0 →
 R8 x0 a1P (fun (K8 : a7) (a0D : Hp) =>
 K K8 0 a0D)))
theorem b0Y (x0 : a7) {w0 w : World} {ps0 : Nat → Prop} {H0 H : Hp} {K : a7 → Int → Hp → Prop} {R : Value → World → Prop} {E : Pan} (I : Inv w0 ps0 H0 H [] w) (hR : ∀ (r0 : a7) (r1 : Int) (H' : Hp) (w' : World) (_ : Inv w0 ps0 H0 H' [] w') (_ : K r0 r1 H'), R (Value.tuple #[(Value.agg (b8 r0).toArray), (vi r1)]) w') (h : a0m x0 H K) : F12 (Value.agg (b8 x0).toArray) w R E := by
 unfold a0m at h
 unfold F12
 refine F7 I (cs := (b8 x0)) rfl fun g_2 w_3 I_4 k_5 => ?_
 refine u2 I_4 Tryd.zeroValue24 (cs := [(vi 0), (vi 0), (Value.string ⟨#[]⟩), (Value.slice none 0 0)]) rfl fun g_7 w_8 I_9 a6F => ?_
 refine d9 (ldA Tryd.isAgg24 Tryd.sizeOf24 rfl ((I_9.bring 1).at1 (o := 0) (vs := (b8 x0)) (nb rfl) rfl)) ?_
 refine f5 (cap := []) (fun args w => Tryd.call39 args w) ?_
 refine i6 (Fi := []) (Fr := [bx g_7 24 [(vi 0), (vi 0), (Value.string ⟨#[]⟩), (Value.slice none 0 0)], bx g_2 24 (b8 x0)]) I_9 (h) (fun d1I a1P d1J m6 a4E c2z d1K b3v => ?_) (fun _ _ _ _ _ q => q.elim)
 obtain ⟨k4, rfl, rfl, h⟩ := b3v
 refine a8 (o4 _ _ _ _ _ _) ?_
 refine a3g (fun a8r => ?_) (fun a8r => ?_)
 ·replace h := h.1 a8r
  refine a8 (c6c ) ?_
  refine k3 a4E Tryd.sizeOf24 (vs := [(vi 0), (vi 0), (Value.string ⟨#[]⟩), (Value.slice none 0 0)]) (cs' := [(vi 0), (vi 0), (Value.string ⟨#[]⟩), (Value.slice none 0 0)]) rfl rfl (nb rfl) rfl rfl fun o7 X6 a9P => ?_
  refine t6 Tryd.isAgg24 Tryd.sizeOf24 rfl (X6.at1 (o := 0) (vs := [(vi 0), (vi 0), (Value.string ⟨#[]⟩), (Value.slice none 0 0)]) (nb rfl) rfl) ?_
  exact hR (a7.mk 0 0 ⟨#[]⟩ (Sl.mk none 0 0)) k4 a1P _ X6.drop.drop h
 ·replace h := h.2 a8r
  refine d9 (ldA Tryd.isAgg24 Tryd.sizeOf24 rfl ((a4E.bring 1).at1 (o := 0) (vs := (b8 x0)) (nb rfl) rfl)) ?_
  refine f5 (cap := []) (fun args w => Tryd.call40 args w) ?_
  refine i6 (Fi := []) (Fr := [bx g_7 24 [(vi 0), (vi 0), (Value.string ⟨#[]⟩), (Value.slice none 0 0)], bx g_2 24 (b8 x0)]) a4E (h) (fun c9a a0D c5b q8 a2P c9b c4V b2m => ?_) (fun _ _ _ _ _ q => q.elim)
  obtain ⟨K8, rfl, rfl, h⟩ := b2m
  refine k3 a2P Tryd.sizeOf24 (vs := (b8 K8)) (cs' := (b8 K8)) rfl rfl (nb rfl) rfl rfl fun w5 a3u b8M => ?_
  refine t6 Tryd.isAgg24 Tryd.sizeOf24 rfl (a3u.at1 (o := 0) (vs := (b8 K8)) (nb rfl) rfl) ?_
  exact hR K8 0 a0D _ a3u.drop.drop h
theorem b1F (x0 : a7) {H : Hp} {K : a7 → Int → Hp → Prop} (h : a0m x0 H K) : a2O x0 H K := by
 intro w I
 refine g4X ?_
 refine b0Y x0 I (fun r0 r1 H' w' I' hk => ⟨H', _, I', r0, r1, rfl, rfl, hk⟩) h
def a2B (x0 : Bool) (H : Hp) (K : d5 → Hp → Prop) : Prop :=
 (x0 = true →
 K (d5.mk 1 0 (Sl.mk none 0 0) (Sl.mk none 0 0)) H) ∧
 (x0 = false →
 K (d5.mk 2 0 (Sl.mk none 0 0) (Sl.mk none 0 0)) H)
theorem b0K (x0 : Bool) {w0 w : World} {ps0 : Nat → Prop} {H0 H : Hp} {K : d5 → Hp → Prop} {R : Value → World → Prop} {E : Pan} (I : Inv w0 ps0 H0 H [] w) (hR : ∀ (r0 : d5) (H' : Hp) (w' : World) (_ : Inv w0 ps0 H0 H' [] w') (_ : K r0 H'), R (Value.agg (d6 r0).toArray) w') (h : a2B x0 H K) : F79 (Value.bool x0) w R E := by
 unfold a2B at h
 unfold F79
 refine u2 I Tryd.zeroValue27 (cs := [(vi 0), (vi 0), (Value.slice none 0 0), (Value.slice none 0 0)]) rfl fun g_2 w_3 I_4 k_5 => ?_
 refine j9 (fun b2W => ?_) (fun b2W => ?_)
 ·replace h := h.1 b2W
  refine a8 (b0q _) ?_
  refine k3 I_4 Tryd.sizeOf27 (vs := [(vi 1), (vi 0), (Value.slice none 0 0), (Value.slice none 0 0)]) (cs' := [(vi 1), (vi 0), (Value.slice none 0 0), (Value.slice none 0 0)]) rfl rfl (nb rfl) rfl rfl fun w_6 I_7 k_8 => ?_
  refine t6 Tryd.isAgg27 Tryd.sizeOf27 rfl (I_7.at1 (o := 0) (vs := [(vi 1), (vi 0), (Value.slice none 0 0), (Value.slice none 0 0)]) (nb rfl) rfl) ?_
  exact hR (d5.mk 1 0 (Sl.mk none 0 0) (Sl.mk none 0 0)) H _ I_7.drop h
 ·replace h := h.2 b2W
  refine a8 (b0q _) ?_
  refine k3 I_4 Tryd.sizeOf27 (vs := [(vi 2), (vi 0), (Value.slice none 0 0), (Value.slice none 0 0)]) (cs' := [(vi 2), (vi 0), (Value.slice none 0 0), (Value.slice none 0 0)]) rfl rfl (nb rfl) rfl rfl fun w_9 a9S c1y => ?_
  refine t6 Tryd.isAgg27 Tryd.sizeOf27 rfl (a9S.at1 (o := 0) (vs := [(vi 2), (vi 0), (Value.slice none 0 0), (Value.slice none 0 0)]) (nb rfl) rfl) ?_
  exact hR (d5.mk 2 0 (Sl.mk none 0 0) (Sl.mk none 0 0)) H _ a9S.drop h
theorem b0Z (x0 : Bool) {H : Hp} {K : d5 → Hp → Prop} (h : a2B x0 H K) : Y3 x0 H K := by
 intro w I
 refine g8m ?_
 refine b0K x0 I (fun r0 H' w' I' hk => ⟨H', _, I', r0, rfl, rfl, hk⟩) h
def C7 (cr_11j3_0 : Int) (cr_11j3_1 : Int) (ccr_11j3_2 : (List a7)) (ccr_11j3_3 : (List d5)) (cr_6j3 : d5) (cr_1j3 : d5) (H : Hp) (K : d5 → Hp → Prop) : Prop :=
 ∀ (scr_11j1_2 : Sl) (a2r : Hp), Hle H a2r → SlH a2r 4 b8 scr_11j1_2 ccr_11j3_2 → scr_11j1_2.n ≤ scr_11j1_2.c →
 ∀ (scr_11j2_3 : Sl) (c0w : Hp), Hle a2r c0w → SlH c0w 4 d6 scr_11j2_3 ccr_11j3_3 → scr_11j2_3.n ≤ scr_11j2_3.c →
 K (d5.mk cr_11j3_0 cr_11j3_1 scr_11j1_2 scr_11j2_3) c0w
def I3 (b0s : Int) (c0x : Int) (cr_11j5_0 : Int) (cr_11j5_1 : Int) (ccr_11j5_2 : (List a7)) (ccr_11j5_3 : (List d5)) (cr_6j5 : d5) (cr_1j5 : d5) (H : Hp) (K : d5 → Hp → Prop) : Prop :=
 (0 : Int) ≤ 0 ∧ ∃ c4k : d5, (ccr_11j5_3)[(0 : Int).toNat]? = some c4k ∧
 (c4k.b9 = b0s →
 (0 : Int) ≤ 1 ∧ ∃ b4s : d5, (ccr_11j5_3)[(1 : Int).toNat]? = some b4s ∧
 K b4s H) ∧
 (¬ (c4k.b9 = b0s) →
 (0 : Int) ≤ 0 ∧ ∃ c4l : d5, (ccr_11j5_3)[(0 : Int).toNat]? = some c4l ∧
 (c4l.b9 = c0x →
 (0 : Int) ≤ 0 ∧ ∃ b4t : d5, (ccr_11j5_3)[(0 : Int).toNat]? = some b4t ∧
 K b4t H) ∧
 (¬ (c4l.b9 = c0x) →
 (0 : Int) ≤ 1 ∧ ∃ c4m : d5, (ccr_11j5_3)[(1 : Int).toNat]? = some c4m ∧
 (c4m.b9 = b0s →
 (0 : Int) ≤ 0 ∧ ∃ b4u : d5, (ccr_11j5_3)[(0 : Int).toNat]? = some b4u ∧
 K b4u H) ∧
 (¬ (c4m.b9 = b0s) →
 C7 cr_11j5_0 cr_11j5_1 ccr_11j5_2 ccr_11j5_3 cr_6j5 cr_1j5 H K)))
def I4 (b6b : Bool) (cr_11j4_0 : Int) (cr_11j4_1 : Int) (ccr_11j4_2 : (List a7)) (ccr_11j4_3 : (List d5)) (cr_6j4 : d5) (cr_1j4 : d5) (H : Hp) (K : d5 → Hp → Prop) : Prop :=
 (b6b = true →
 (cr_11j4_0 = 6 →
 I3 2 1 cr_11j4_0 cr_11j4_1 ccr_11j4_2 ccr_11j4_3 cr_6j4 cr_1j4 H K) ∧
 (¬ (cr_11j4_0 = 6) →
 I3 1 2 cr_11j4_0 cr_11j4_1 ccr_11j4_2 ccr_11j4_3 cr_6j4 cr_1j4 H K)) ∧
 (b6b = false →
 C7 cr_11j4_0 cr_11j4_1 ccr_11j4_2 ccr_11j4_3 cr_6j4 cr_1j4 H K)
def V7 (cr_11j2_0 : Int) (cr_11j2_1 : Int) (ccr_11j2_2 : (List a7)) (ccr_11j2_3 : (List d5)) (cr_6j2 : d5) (cr_1j2 : d5) (H : Hp) (K : d5 → Hp → Prop) : Prop :=
 (cr_11j2_0 = 3 →
 (0 : Int) ≤ 0 ∧ ∃ d7R : a7, (ccr_11j2_2)[(0 : Int).toNat]? = some d7R ∧
 B2 d7R H (fun (d1O : Int) (c4n : Bool) (g8B : Hp) =>
 (0 : Int) ≤ 1 ∧ ∃ c7s : a7, (ccr_11j2_2)[(1 : Int).toNat]? = some c7s ∧
 B2 c7s g8B (fun (d1P : Int) (c4o : Bool) (c7t : Hp) =>
 ((c4n && c4o) = true →
 a3U cr_11j2_1 d1O d1P c7t (fun (e0N : Bool) (e7d : Hp) =>
 Y3 e0N e7d (fun (b6c : d5) (d7S : Hp) =>
 K b6c d7S))) ∧
 ((c4n && c4o) = false →
 C7 cr_11j2_0 cr_11j2_1 ccr_11j2_2 ccr_11j2_3 cr_6j2 cr_1j2 c7t K)))) ∧
 (¬ (cr_11j2_0 = 3) →
 (cr_11j2_0 = 4 →
 (0 : Int) ≤ 0 ∧ ∃ b4v : d5, (ccr_11j2_3)[(0 : Int).toNat]? = some b4v ∧
 (((decide (b4v.b9 = 1)) || (decide (b4v.b9 = 2))) = true →
 Y3 (decide (b4v.b9 = 2)) H (fun (b6d : d5) (d7T : Hp) =>
 K b6d d7T)) ∧
 (((decide (b4v.b9 = 1)) || (decide (b4v.b9 = 2))) = false →
 C7 cr_11j2_0 cr_11j2_1 ccr_11j2_2 ccr_11j2_3 cr_6j2 cr_1j2 H K)) ∧
 (¬ (cr_11j2_0 = 4) →
 (cr_11j2_0 = 5 →
 I4 (decide (cr_11j2_0 = 5)) cr_11j2_0 cr_11j2_1 ccr_11j2_2 ccr_11j2_3 cr_6j2 cr_1j2 H K) ∧
 (¬ (cr_11j2_0 = 5) →
 I4 (decide (cr_11j2_0 = 6)) cr_11j2_0 cr_11j2_1 ccr_11j2_2 ccr_11j2_3 cr_6j2 cr_1j2 H K)))
def V8 (ccr_11l6_2 : (List a7)) (cr_1l6 : d5) (a7D : Int) (cr_11l6_0 : Int) (cr_11l6_1 : Int) (ccr_11l6_3 : (List d5)) (cr_6l6 : d5) (H : Hp) (n6 : (Int × Int × Int × (List d5) × d5) → Hp → Prop) (K : d5 → Hp → Prop) : Prop :=
 (a7D < (cr_1l6.i7.n : Int) →
 (0 : Int) ≤ a7D ∧ (a7D : Int) < cr_1l6.i7.n ∧ ∃ c7u : d5, EltH H cr_1l6.i7 a7D 4 (d6 c7u) ∧
 a0f c7u H (fun (b9t : d5) (d7U : Hp) =>
 (ccr_11l6_3.length + ([b9t] : List d5).length) * 65 ≤ 140737488355328 ∧
 n6 ((IntKind.wrap .i64 (a7D + 1)), cr_11l6_0, cr_11l6_1, (ccr_11l6_3 ++ [b9t]), cr_6l6) d7U)) ∧
 (¬ (a7D < (cr_1l6.i7.n : Int)) →
 V7 cr_11l6_0 cr_11l6_1 ccr_11l6_2 ccr_11l6_3 cr_6l6 cr_1l6 H K)
def V9 (cr_11j1_0 : Int) (cr_11j1_1 : Int) (ccr_11j1_2 : (List a7)) (ccr_11j1_3 : (List d5)) (cr_6j1 : d5) (cr_1j1 : d5) (H : Hp) (K : d5 → Hp → Prop) : Prop :=
 TL ((0, cr_11j1_0, cr_11j1_1, ccr_11j1_3, cr_6j1) : Int × Int × Int × (List d5) × d5) H fun (s : Int × Int × Int × (List d5) × d5) H n6 => V8 ccr_11j1_2 cr_1j1 s.1 s.2.1 s.2.2.1 s.2.2.2.1 s.2.2.2.2 H n6 K
def W0 (cr_1l7 : d5) (a6O : Int) (cr_11l7_0 : Int) (cr_11l7_1 : Int) (ccr_11l7_2 : (List a7)) (ccr_11l7_3 : (List d5)) (cr_6l7 : d5) (H : Hp) (n7 : (Int × Int × Int × (List a7) × (List d5) × d5) → Hp → Prop) (K : d5 → Hp → Prop) : Prop :=
 (a6O < (cr_1l7.g5.n : Int) →
 (0 : Int) ≤ a6O ∧ (a6O : Int) < cr_1l7.g5.n ∧ ∃ c7v : a7, EltH H cr_1l7.g5 a6O 4 (b8 c7v) ∧
 R8 c7v H (fun (b9u : a7) (d7V : Hp) =>
 (ccr_11l7_2.length + ([b9u] : List a7).length) * 57 ≤ 140737488355328 ∧
 n7 ((IntKind.wrap .i64 (a6O + 1)), cr_11l7_0, cr_11l7_1, (ccr_11l7_2 ++ [b9u]), ccr_11l7_3, cr_6l7) d7V)) ∧
 (¬ (a6O < (cr_1l7.g5.n : Int)) →
 V9 cr_11l7_0 cr_11l7_1 ccr_11l7_2 ccr_11l7_3 cr_6l7 cr_1l7 H K)
def a0o (x0 : d5) (H : Hp) (K : d5 → Hp → Prop) : Prop :=
 TL ((0, x0.b9, x0.fOp, [], [], (d5.mk 0 0 (Sl.mk none 0 0) (Sl.mk none 0 0))) : Int × Int × Int × (List a7) × (List d5) × d5) H fun (s : Int × Int × Int × (List a7) × (List d5) × d5) H n7 => W0 x0 s.1 s.2.1 s.2.2.1 s.2.2.2.1 s.2.2.2.2.1 s.2.2.2.2.2 H n7 K
theorem b1a (x0 : d5) {w0 w : World} {ps0 : Nat → Prop} {H0 H : Hp} {K : d5 → Hp → Prop} {R : Value → World → Prop} {E : Pan} (I : Inv w0 ps0 H0 H [] w) (hR : ∀ (r0 : d5) (H' : Hp) (w' : World) (_ : Inv w0 ps0 H0 H' [] w') (_ : K r0 H'), R (Value.agg (d6 r0).toArray) w') (h : a0o x0 H K) : F44 (Value.agg (d6 x0).toArray) w R E := by
 unfold a0o at h
 unfold F44
 refine F7 I (cs := (d6 x0)) rfl fun g_2 w_3 I_4 k_5 => ?_
 refine u2 I_4 Tryd.zeroValue27 (cs := [(vi 0), (vi 0), (Value.slice none 0 0), (Value.slice none 0 0)]) rfl fun g_7 w_8 I_9 a6F => ?_
 refine a8 B3 ?_
 refine d9 (ld1 Tryd.isAgg3 ((I_9.bring 1).at1 (o := 0) (vs := [(vi x0.b9)]) (nb rfl) rfl)) ?_
 refine a8 G9 ?_
 refine d9 (ld1 Tryd.isAgg3 ((I_9.bring 1).at1 (o := 1) (vs := [(vi x0.fOp)]) (nb rfl) rfl)) ?_
 refine a8 (c6D _ _) ?_
 refine u2 I_9 Tryd.zeroValue27 (cs := [(vi 0), (vi 0), (Value.slice none 0 0), (Value.slice none 0 0)]) rfl fun L1 a2w J7 a2T => ?_
 refine k3 J7 Tryd.sizeOf27 (vs := [(vi x0.b9), (vi x0.fOp), (Value.slice none 0 0), (Value.slice none 0 0)]) (cs' := [(vi x0.b9), (vi x0.fOp), (Value.slice none 0 0), (Value.slice none 0 0)]) rfl rfl (nb rfl) rfl rfl fun o5 b4N e1A => ?_
 have hj1 : ∀ (cr_11j1_0 : Int) (cr_11j1_1 : Int) (ccr_11j1_2 : (List a7)) (ccr_11j1_3 : (List d5)) (cr_6j1 : d5) (scr_11j1_2 : Sl) (Fcr_11j1_2 : Frag) (scr_11j1_3 : Sl) (Fcr_11j1_3 : Frag) (H : Hp) (w : World) (_ : RowL 24 4 b8 scr_11j1_2 ccr_11j1_2 Fcr_11j1_2) (_ : RowL 27 4 d6 scr_11j1_3 ccr_11j1_3 Fcr_11j1_3) (_ : Inv w0 ps0 H0 H [bx L1 27 [(vi cr_11j1_0), (vi cr_11j1_1), (vs scr_11j1_2), (vs scr_11j1_3)], bx g_7 27 (d6 cr_6j1), bx g_2 27 (d6 x0), Fcr_11j1_2, Fcr_11j1_3] w) (_ : V9 cr_11j1_0 cr_11j1_1 ccr_11j1_2 ccr_11j1_3 cr_6j1 x0 H K), d1x (Value.pointer (some ⟨g_2, 0, none⟩)) (Value.pointer (some ⟨g_7, 0, none⟩)) (Value.pointer (some ⟨L1, 0, none⟩)) w R E := by
  intro cr_11j1_0 cr_11j1_1 ccr_11j1_2 ccr_11j1_3 cr_6j1 scr_11j1_2 Fcr_11j1_2 scr_11j1_3 Fcr_11j1_3 H w hcr_11j1_2 hcr_11j1_3 I h
  unfold d1x
  intro _
  unfold V9 at h
  have hj2 : ∀ (cr_11j2_0 : Int) (cr_11j2_1 : Int) (ccr_11j2_2 : (List a7)) (ccr_11j2_3 : (List d5)) (cr_6j2 : d5) (Fcr_11j2_2 : Frag) (scr_11j2_3 : Sl) (Fcr_11j2_3 : Frag) (H : Hp) (w : World) (_ : RowL 24 4 b8 scr_11j1_2 ccr_11j2_2 Fcr_11j2_2) (_ : RowL 27 4 d6 scr_11j2_3 ccr_11j2_3 Fcr_11j2_3) (_ : Inv w0 ps0 H0 H [bx L1 27 [(vi cr_11j2_0), (vi cr_11j2_1), (vs scr_11j1_2), (vs scr_11j2_3)], bx g_7 27 (d6 cr_6j2), bx g_2 27 (d6 x0), Fcr_11j2_2, Fcr_11j2_3] w) (_ : V7 cr_11j2_0 cr_11j2_1 ccr_11j2_2 ccr_11j2_3 cr_6j2 x0 H K), d1t (Value.pointer (some ⟨g_7, 0, none⟩)) (Value.pointer (some ⟨L1, 0, none⟩)) w R E := by
   intro cr_11j2_0 cr_11j2_1 ccr_11j2_2 ccr_11j2_3 cr_6j2 Fcr_11j2_2 scr_11j2_3 Fcr_11j2_3 H w hcr_11j2_2 hcr_11j2_3 I h
   unfold d1t
   intro _
   unfold V7 at h
   have hj3 : ∀ (cr_11j3_0 : Int) (cr_11j3_1 : Int) (H : Hp) (w : World) (_ : Inv w0 ps0 H0 H [bx L1 27 [(vi cr_11j3_0), (vi cr_11j3_1), (vs scr_11j1_2), (vs scr_11j2_3)], bx g_7 27 (d6 cr_6j2), bx g_2 27 (d6 x0), Fcr_11j2_2, Fcr_11j2_3] w) (_ : C7 cr_11j3_0 cr_11j3_1 ccr_11j2_2 ccr_11j2_3 cr_6j2 x0 H K), d1q (Value.pointer (some ⟨g_7, 0, none⟩)) (Value.pointer (some ⟨L1, 0, none⟩)) w R E := by
    intro cr_11j3_0 cr_11j3_1 H w I h
    unfold d1q
    intro _
    unfold C7 at h
    refine d9 (ldA Tryd.isAgg27 Tryd.sizeOf27 rfl (I.at1 (o := 0) (vs := [(vi cr_11j3_0), (vi cr_11j3_1), (vs scr_11j1_2), (vs scr_11j2_3)]) (nb rfl) rfl)) ?_
    refine k3 (I.bring 1) Tryd.sizeOf27 (vs := [(vi cr_11j3_0), (vi cr_11j3_1), (vs scr_11j1_2), (vs scr_11j2_3)]) (cs' := [(vi cr_11j3_0), (vi cr_11j3_1), (vs scr_11j1_2), (vs scr_11j2_3)]) rfl rfl (nb rfl) rfl rfl fun a7f e7e h8T => ?_
    refine t6 Tryd.isAgg27 Tryd.sizeOf27 rfl (e7e.at1 (o := 0) (vs := [(vi cr_11j3_0), (vi cr_11j3_1), (vs scr_11j1_2), (vs scr_11j2_3)]) (nb rfl) rfl) ?_
    obtain ⟨a2r, h2q, h2r, h2s, h2t⟩ := Inv.freezeC (e7e.bring 3) hcr_11j2_2 (by decide)
    replace h := h scr_11j1_2 a2r h2r h2s h2t
    obtain ⟨c0w, h2u, c7m, h2v, h2w⟩ := Inv.freezeC (h2q.bring 3) hcr_11j2_3 (by decide)
    replace h := h scr_11j2_3 c0w c7m h2v h2w
    exact hR (d5.mk cr_11j3_0 cr_11j3_1 scr_11j1_2 scr_11j2_3) c0w _ h2u.drop.drop.drop h
   refine s8 fun j3 hx3 => ?_
   refine a8 B3 ?_
   refine d9 (ld1 Tryd.isAgg3 (I.at1 (o := 0) (vs := [(vi cr_11j2_0)]) (nb rfl) rfl)) ?_
   refine a8 (f4 _ _ _ _ _ _) ?_
   refine g8 (fun d7W => ?_) (fun d7W => ?_)
   ·replace h := h.1 d7W
    refine a8 u1 ?_
    refine d9 (ld1 Tryd.isAgg22 (I.at1 (o := 2) (vs := [(vs scr_11j1_2)]) (nb rfl) rfl)) ?_
    obtain ⟨d1F, d7R, c5R, h⟩ := h
    obtain ⟨i2D, i2E, c1w, d4q⟩ := hcr_11j2_2.addr c5R
    refine a8 (m7 c1w _ _ _ _ d1F (hcr_11j2_2.lt d1F c5R)) ?_
    refine d9 (ldA (vs := (b8 d7R)) Tryd.isAgg24 Tryd.sizeOf24 rfl (hcr_11j2_2.atW (I.bring 3) c1w c5R)) ?_
    refine f5 (cap := []) (fun args w => Tryd.call69 args w) ?_
    refine i6 (Fi := []) (Fr := [bx L1 27 [(vi cr_11j2_0), (vi cr_11j2_1), (vs scr_11j1_2), (vs scr_11j2_3)], bx g_7 27 (d6 cr_6j2), bx g_2 27 (d6 x0), Fcr_11j2_2, Fcr_11j2_3]) I (h) (fun h8U g8B h8V c2x e5B h8W i2F h2x => ?_) (fun _ _ _ _ _ q => q.elim)
    obtain ⟨d1O, c4n, rfl, rfl, h⟩ := h2x
    refine a8 (i4 _ _ (vi d1O) rfl) ?_
    refine a8 (i4 _ _ (Value.bool c4n) rfl) ?_
    refine a8 u1 ?_
    refine d9 (ld1 Tryd.isAgg22 (e5B.at1 (o := 2) (vs := [(vs scr_11j1_2)]) (nb rfl) rfl)) ?_
    obtain ⟨c4b, c7s, d7X, h⟩ := h
    obtain ⟨h8X, h8Y, e7f, e6D⟩ := hcr_11j2_2.addr d7X
    refine a8 (m7 e7f _ _ _ _ c4b (hcr_11j2_2.lt c4b d7X)) ?_
    refine d9 (ldA (vs := (b8 c7s)) Tryd.isAgg24 Tryd.sizeOf24 rfl (hcr_11j2_2.atW (e5B.bring 3) e7f d7X)) ?_
    refine f5 (cap := []) (fun args w => Tryd.call69 args w) ?_
    refine i6 (Fi := []) (Fr := [bx L1 27 [(vi cr_11j2_0), (vi cr_11j2_1), (vs scr_11j1_2), (vs scr_11j2_3)], bx g_7 27 (d6 cr_6j2), bx g_2 27 (d6 x0), Fcr_11j2_2, Fcr_11j2_3]) e5B (h) (fun h8Z c7t h9a b4k d7Y h9b h9c h2y => ?_) (fun _ _ _ _ _ q => q.elim)
    obtain ⟨d1P, c4o, rfl, rfl, h⟩ := h2y
    refine a8 (i4 _ _ (vi d1P) rfl) ?_
    refine a8 (i4 _ _ (Value.bool c4o) rfl) ?_
    try simp only [m4]
    refine a8 (k9 _ _) ?_
    refine j9 (fun d7Z => ?_) (fun d7Z => ?_)
    ·replace h := h.1 d7Z
     refine a8 G9 ?_
     refine d9 (ld1 Tryd.isAgg3 (d7Y.at1 (o := 1) (vs := [(vi cr_11j2_1)]) (nb rfl) rfl)) ?_
     refine f5 (cap := []) (fun args w => Tryd.call80 args w) ?_
     refine i6 (Fi := []) (Fr := [bx L1 27 [(vi cr_11j2_0), (vi cr_11j2_1), (vs scr_11j1_2), (vs scr_11j2_3)], bx g_7 27 (d6 cr_6j2), bx g_2 27 (d6 x0), Fcr_11j2_2, Fcr_11j2_3]) d7Y (h) (fun h9d e7d h9e a4f h2z h9f h9g h2A => ?_) (fun _ _ _ _ _ q => q.elim)
     obtain ⟨e0N, rfl, rfl, h⟩ := h2A
     refine f5 (cap := []) (fun args w => Tryd.call79 args w) ?_
     refine i6 (Fi := []) (Fr := [bx L1 27 [(vi cr_11j2_0), (vi cr_11j2_1), (vs scr_11j1_2), (vs scr_11j2_3)], bx g_7 27 (d6 cr_6j2), bx g_2 27 (d6 x0), Fcr_11j2_2, Fcr_11j2_3]) h2z (h) (fun h9h d7S h9i h9j h2B h9k h9l h2C => ?_) (fun _ _ _ _ _ q => q.elim)
     obtain ⟨b6c, rfl, rfl, h⟩ := h2C
     refine k3 (h2B.bring 1) Tryd.sizeOf27 (vs := (d6 b6c)) (cs' := (d6 b6c)) rfl rfl (nb rfl) rfl rfl fun h9m e7g h9n => ?_
     refine t6 Tryd.isAgg27 Tryd.sizeOf27 rfl (e7g.at1 (o := 0) (vs := (d6 b6c)) (nb rfl) rfl) ?_
     exact hR b6c d7S _ e7g.drop.drop.drop.drop.drop h
    ·replace h := h.2 d7Z
     exact hx3 _ _ (hj3 cr_11j2_0 cr_11j2_1 c7t _ (((((d7Y.bring 4).bring 4).bring 4).bring 4).bring 4) h)
   ·replace h := h.2 d7W
    refine a8 (f4 _ _ _ _ _ _) ?_
    refine g8 (fun d8a => ?_) (fun d8a => ?_)
    ·replace h := h.1 d8a
     refine a8 s5 ?_
     refine d9 (ld1 Tryd.isAgg25 (I.at1 (o := 3) (vs := [(vs scr_11j2_3)]) (nb rfl) rfl)) ?_
     obtain ⟨b4r, b4v, c4e, h⟩ := h
     obtain ⟨h9o, h9p, c0m, h9q⟩ := hcr_11j2_3.addr c4e
     refine a8 (T9 c0m _ _ _ _ b4r (hcr_11j2_3.lt b4r c4e)) ?_
     refine a8 B3 ?_
     refine d9 (ld1 (v := (vi b4v.b9)) Tryd.isAgg3 ((hcr_11j2_3.atW (I.bring 4) c0m c4e).sub (k := 0) (n := 1) (nb rfl))) ?_
     refine a8 (f4 _ _ _ _ _ _) ?_
     try simp only [m4]
     refine a8 (Pu.g fun hb => by have b6 := hb; first | exact (f4 _ _ _ _ _ _) | (simp only [b7 b6]; exact (f4 _ _ _ _ _ _)) | (simp only [d7 b6, b7 b6, b7 hb, l9 b6, f9]; exact (f4 _ _ _ _ _ _))) ?_
     refine a8 (A5 _ _) ?_
     refine j9 (fun d8b => ?_) (fun d8b => ?_)
     ·replace h := h.1 d8b
      refine a8 (f4 _ _ _ _ _ _) ?_
      refine f5 (cap := []) (fun args w => Tryd.call79 args w) ?_
      refine i6 (Fi := []) (Fr := [bx L1 27 [(vi cr_11j2_0), (vi cr_11j2_1), (vs scr_11j1_2), (vs scr_11j2_3)], bx g_7 27 (d6 cr_6j2), bx g_2 27 (d6 x0), Fcr_11j2_2, Fcr_11j2_3]) I (h) (fun h9r d7T h9s h9t h2D h9u h9v h2E => ?_) (fun _ _ _ _ _ q => q.elim)
      obtain ⟨b6d, rfl, rfl, h⟩ := h2E
      refine k3 (h2D.bring 1) Tryd.sizeOf27 (vs := (d6 b6d)) (cs' := (d6 b6d)) rfl rfl (nb rfl) rfl rfl fun d6v b7A h1k => ?_
      refine t6 Tryd.isAgg27 Tryd.sizeOf27 rfl (b7A.at1 (o := 0) (vs := (d6 b6d)) (nb rfl) rfl) ?_
      exact hR b6d d7T _ b7A.drop.drop.drop.drop.drop h
     ·replace h := h.2 d8b
      exact hx3 _ _ (hj3 cr_11j2_0 cr_11j2_1 H _ (((((I.bring 4).bring 4).bring 4).bring 4).bring 4) h)
    ·replace h := h.2 d8a
     have hj4 : ∀ (b6b : Bool) (cr_11j4_0 : Int) (cr_11j4_1 : Int) (H : Hp) (w : World) (_ : Inv w0 ps0 H0 H [bx L1 27 [(vi cr_11j4_0), (vi cr_11j4_1), (vs scr_11j1_2), (vs scr_11j2_3)], bx g_7 27 (d6 cr_6j2), bx g_2 27 (d6 x0), Fcr_11j2_2, Fcr_11j2_3] w) (_ : I4 b6b cr_11j4_0 cr_11j4_1 ccr_11j2_2 ccr_11j2_3 cr_6j2 x0 H K), d1s (Value.pointer (some ⟨g_7, 0, none⟩)) (Value.pointer (some ⟨L1, 0, none⟩)) (Value.bool b6b) w j3 R E := by
      intro b6b cr_11j4_0 cr_11j4_1 H w I h
      unfold d1s
      intro _
      unfold I4 at h
      refine j9 (fun d8c => ?_) (fun d8c => ?_)
      ·replace h := h.1 d8c
       have hj5 : ∀ (b0s : Int) (c0x : Int) (cr_11j5_0 : Int) (cr_11j5_1 : Int) (H : Hp) (w : World) (_ : Inv w0 ps0 H0 H [bx L1 27 [(vi cr_11j5_0), (vi cr_11j5_1), (vs scr_11j1_2), (vs scr_11j2_3)], bx g_7 27 (d6 cr_6j2), bx g_2 27 (d6 x0), Fcr_11j2_2, Fcr_11j2_3] w) (_ : I3 b0s c0x cr_11j5_0 cr_11j5_1 ccr_11j2_2 ccr_11j2_3 cr_6j2 x0 H K), d1r (Value.pointer (some ⟨g_7, 0, none⟩)) (Value.pointer (some ⟨L1, 0, none⟩)) (vi b0s) (vi c0x) w j3 R E := by
        intro b0s c0x cr_11j5_0 cr_11j5_1 H w I h
        unfold d1r
        intro _
        unfold I3 at h
        refine a8 s5 ?_
        refine d9 (ld1 Tryd.isAgg25 (I.at1 (o := 3) (vs := [(vs scr_11j2_3)]) (nb rfl) rfl)) ?_
        obtain ⟨e7h, c4k, d8d, h⟩ := h
        obtain ⟨h9w, h9x, e7i, e6N⟩ := hcr_11j2_3.addr d8d
        refine a8 (T9 e7i _ _ _ _ e7h (hcr_11j2_3.lt e7h d8d)) ?_
        refine a8 B3 ?_
        refine d9 (ld1 (v := (vi c4k.b9)) Tryd.isAgg3 ((hcr_11j2_3.atW (I.bring 4) e7i d8d).sub (k := 0) (n := 1) (nb rfl))) ?_
        refine a8 (f4 _ _ _ _ _ _) ?_
        refine g8 (fun d8e => ?_) (fun d8e => ?_)
        ·replace h := h.1 d8e
         refine a8 s5 ?_
         refine d9 (ld1 Tryd.isAgg25 (I.at1 (o := 3) (vs := [(vs scr_11j2_3)]) (nb rfl) rfl)) ?_
         obtain ⟨c7k, b4s, b7B, h⟩ := h
         obtain ⟨h9y, h9z, e7j, h9A⟩ := hcr_11j2_3.addr b7B
         refine a8 (T9 e7j _ _ _ _ c7k (hcr_11j2_3.lt c7k b7B)) ?_
         refine d9 (ldA (vs := (d6 b4s)) Tryd.isAgg27 Tryd.sizeOf27 rfl (hcr_11j2_3.atW (I.bring 4) e7j b7B)) ?_
         refine k3 (I.bring 1) Tryd.sizeOf27 (vs := (d6 b4s)) (cs' := (d6 b4s)) rfl rfl (nb rfl) rfl rfl fun c3O e7k h9B => ?_
         refine t6 Tryd.isAgg27 Tryd.sizeOf27 rfl (e7k.at1 (o := 0) (vs := (d6 b4s)) (nb rfl) rfl) ?_
         exact hR b4s H _ e7k.drop.drop.drop.drop.drop h
        ·replace h := h.2 d8e
         refine a8 s5 ?_
         refine d9 (ld1 Tryd.isAgg25 (I.at1 (o := 3) (vs := [(vs scr_11j2_3)]) (nb rfl) rfl)) ?_
         obtain ⟨e7l, c4l, d8f, h⟩ := h
         obtain ⟨h9C, h9D, e7m, h9E⟩ := hcr_11j2_3.addr d8f
         refine a8 (T9 e7m _ _ _ _ e7l (hcr_11j2_3.lt e7l d8f)) ?_
         refine a8 B3 ?_
         refine d9 (ld1 (v := (vi c4l.b9)) Tryd.isAgg3 ((hcr_11j2_3.atW (I.bring 4) e7m d8f).sub (k := 0) (n := 1) (nb rfl))) ?_
         refine a8 (f4 _ _ _ _ _ _) ?_
         refine g8 (fun d8g => ?_) (fun d8g => ?_)
         ·replace h := h.1 d8g
          refine a8 s5 ?_
          refine d9 (ld1 Tryd.isAgg25 (I.at1 (o := 3) (vs := [(vs scr_11j2_3)]) (nb rfl) rfl)) ?_
          obtain ⟨e7n, b4t, d8h, h⟩ := h
          obtain ⟨h9F, h9G, e7o, h9H⟩ := hcr_11j2_3.addr d8h
          refine a8 (T9 e7o _ _ _ _ e7n (hcr_11j2_3.lt e7n d8h)) ?_
          refine d9 (ldA (vs := (d6 b4t)) Tryd.isAgg27 Tryd.sizeOf27 rfl (hcr_11j2_3.atW (I.bring 4) e7o d8h)) ?_
          refine k3 (I.bring 1) Tryd.sizeOf27 (vs := (d6 b4t)) (cs' := (d6 b4t)) rfl rfl (nb rfl) rfl rfl fun h9I e7p h9J => ?_
          refine t6 Tryd.isAgg27 Tryd.sizeOf27 rfl (e7p.at1 (o := 0) (vs := (d6 b4t)) (nb rfl) rfl) ?_
          exact hR b4t H _ e7p.drop.drop.drop.drop.drop h
         ·replace h := h.2 d8g
          refine a8 s5 ?_
          refine d9 (ld1 Tryd.isAgg25 (I.at1 (o := 3) (vs := [(vs scr_11j2_3)]) (nb rfl) rfl)) ?_
          obtain ⟨e7q, c4m, d8i, h⟩ := h
          obtain ⟨h9K, h9L, e7r, h9M⟩ := hcr_11j2_3.addr d8i
          refine a8 (T9 e7r _ _ _ _ e7q (hcr_11j2_3.lt e7q d8i)) ?_
          refine a8 B3 ?_
          refine d9 (ld1 (v := (vi c4m.b9)) Tryd.isAgg3 ((hcr_11j2_3.atW (I.bring 4) e7r d8i).sub (k := 0) (n := 1) (nb rfl))) ?_
          refine a8 (f4 _ _ _ _ _ _) ?_
          refine g8 (fun d8j => ?_) (fun d8j => ?_)
          ·replace h := h.1 d8j
           refine a8 s5 ?_
           refine d9 (ld1 Tryd.isAgg25 (I.at1 (o := 3) (vs := [(vs scr_11j2_3)]) (nb rfl) rfl)) ?_
           obtain ⟨e7s, b4u, a3O, h⟩ := h
           obtain ⟨h9N, h9O, e7t, h9P⟩ := hcr_11j2_3.addr a3O
           refine a8 (T9 e7t _ _ _ _ e7s (hcr_11j2_3.lt e7s a3O)) ?_
           refine d9 (ldA (vs := (d6 b4u)) Tryd.isAgg27 Tryd.sizeOf27 rfl (hcr_11j2_3.atW (I.bring 4) e7t a3O)) ?_
           refine k3 (I.bring 1) Tryd.sizeOf27 (vs := (d6 b4u)) (cs' := (d6 b4u)) rfl rfl (nb rfl) rfl rfl fun e6i e7u h9Q => ?_
           refine t6 Tryd.isAgg27 Tryd.sizeOf27 rfl (e7u.at1 (o := 0) (vs := (d6 b4u)) (nb rfl) rfl) ?_
           exact hR b4u H _ e7u.drop.drop.drop.drop.drop h
          ·replace h := h.2 d8j
           exact hx3 _ _ (hj3 cr_11j5_0 cr_11j5_1 H _ (((((I.bring 4).bring 4).bring 4).bring 4).bring 4) h)
       refine s8 fun j5 hx5 => ?_
       refine a8 B3 ?_
       refine d9 (ld1 Tryd.isAgg3 (I.at1 (o := 0) (vs := [(vi cr_11j4_0)]) (nb rfl) rfl)) ?_
       refine a8 (f4 _ _ _ _ _ _) ?_
       refine g8 (fun d8k => ?_) (fun d8k => ?_)
       ·replace h := h.1 d8k
        exact hx5 _ _ (hj5 2 1 cr_11j4_0 cr_11j4_1 H _ (((((I.bring 4).bring 4).bring 4).bring 4).bring 4) h)
       ·replace h := h.2 d8k
        exact hx5 _ _ (hj5 1 2 cr_11j4_0 cr_11j4_1 H _ (((((I.bring 4).bring 4).bring 4).bring 4).bring 4) h)
      ·replace h := h.2 d8c
       exact hx3 _ _ (hj3 cr_11j4_0 cr_11j4_1 H _ (((((I.bring 4).bring 4).bring 4).bring 4).bring 4) h)
     refine s8 fun j4 hx4 => ?_
     refine a8 (f4 _ _ _ _ _ _) ?_
     refine g8 (fun d8l => ?_) (fun d8l => ?_)
     ·replace h := h.1 d8l
      exact hx4 _ _ (hj4 (decide (cr_11j2_0 = 5)) cr_11j2_0 cr_11j2_1 H _ (((((I.bring 4).bring 4).bring 4).bring 4).bring 4) h)
     ·replace h := h.2 d8l
      refine a8 (f4 _ _ _ _ _ _) ?_
      exact hx4 _ _ (hj4 (decide (cr_11j2_0 = 6)) cr_11j2_0 cr_11j2_1 H _ (((((I.bring 4).bring 4).bring 4).bring 4).bring 4) h)
  refine s8 fun j2 hx2 => ?_
  obtain ⟨d8m, c4p, h2F, h2G⟩ := h
  refine I0 (J := fun n l w => ∃ (s : Int × Int × Int × (List d5) × d5) (H : Hp) (scr_11l6_3 : Sl) (Fcr_11l6_3 : Frag) , n = c4p s ∧ l = (match s with | (a7D, cr_11l6_0, cr_11l6_1, ccr_11l6_3, cr_6l6) => [(vi a7D)]) ∧ (match s with | (a7D, cr_11l6_0, cr_11l6_1, ccr_11l6_3, cr_6l6) => RowL 27 4 d6 scr_11l6_3 ccr_11l6_3 Fcr_11l6_3) ∧ (match s with | (a7D, cr_11l6_0, cr_11l6_1, ccr_11l6_3, cr_6l6) => Inv w0 ps0 H0 H [bx L1 27 [(vi cr_11l6_0), (vi cr_11l6_1), (vs scr_11j1_2), (vs scr_11l6_3)], bx g_7 27 (d6 cr_6l6), bx g_2 27 (d6 x0), Fcr_11j1_2, Fcr_11l6_3] w) ∧ d8m s H) ⟨_, (0, cr_11j1_0, cr_11j1_1, ccr_11j1_3, cr_6j1), H, scr_11j1_3, Fcr_11j1_3, rfl, rfl, hcr_11j1_3, (((((I.bring 4).bring 4).bring 4).bring 4).bring 4), h2F⟩ ?_
  rintro h9R τ_285 w next6 ⟨⟨a7D, cr_11l6_0, cr_11l6_1, ccr_11l6_3, cr_6l6⟩, H, scr_11l6_3, Fcr_11l6_3, rfl, d8n, hcr_11l6_3, I, h2H⟩ hn6
  dsimp only at d8n I hcr_11l6_3
  simp only [List.map_cons, List.map_nil, List.cons.injEq, and_true] at d8n
  have e5 := d8n
  simp only [e5]
  obtain ⟨n6, hm6, h⟩ : ∃ n6 : (Int × Int × Int × (List d5) × d5) → Hp → Prop, (∀ s' H', n6 s' H' → d8m s' H' ∧ c4p s' < c4p (a7D, cr_11l6_0, cr_11l6_1, ccr_11l6_3, cr_6l6)) ∧ V8 ccr_11j1_2 x0 a7D cr_11l6_0 cr_11l6_1 ccr_11l6_3 cr_6l6 H n6 K := ⟨_, fun _ _ h => h, h2G (a7D, cr_11l6_0, cr_11l6_1, ccr_11l6_3, cr_6l6) H (fun s' H' => d8m s' H' ∧ c4p s' < c4p (a7D, cr_11l6_0, cr_11l6_1, ccr_11l6_3, cr_6l6)) h2H (fun _ _ a b => ⟨a, b⟩)⟩
  unfold e0B
  unfold V8 at h
  refine a8 s5 ?_
  refine d9 (ld1 Tryd.isAgg25 ((I.bring 2).at1 (o := 3) (vs := [(vs x0.i7)]) (nb rfl) rfl)) ?_
  refine a8 (H8 _ _ _) ?_
  refine a8 (o3 _ _ _ _ _ _) ?_
  refine g8 (fun b7F => ?_) (fun b7F => ?_)
  ·replace h := h.1 b7F
   refine a9F I fun h9S c0y => ?_
   refine t1 s5 ?_
   refine t1 s5 ?_
   refine G8 (ld1 Tryd.isAgg25 (c0y.at1 (o := 3) (vs := [(vs scr_11l6_3)]) (nb rfl) rfl)) ?_
   refine G8 (ld1 Tryd.isAgg25 ((c0y.bring 2).at1 (o := 3) (vs := [(vs x0.i7)]) (nb rfl) rfl)) ?_
   obtain ⟨h2I, h2J, c7u, d8o, h⟩ := h
   obtain ⟨h9T, h9U, h2K, d8o⟩ := d8o
   refine t1 (T9 h2K _ _ _ _ h2I h2J) ?_
   refine G8 (ldA (vs := (d6 c7u)) Tryd.isAgg27 Tryd.sizeOf27 rfl (c0y.atH d8o)) ?_
   refine f5 (cap := []) (fun args w => Tryd.call44 args w) ?_
   refine i6 (Fi := []) (Fr := [bx L1 27 [(vi cr_11l6_0), (vi cr_11l6_1), (vs scr_11j1_2), (vs scr_11l6_3)], bx g_7 27 (d6 cr_6l6), bx g_2 27 (d6 x0), Fcr_11j1_2, Fcr_11l6_3]) c0y (h) (fun h9V d7U h9W h9X e7v h9Y h2L h2M => ?_) (fun _ _ _ _ _ q => q.elim)
   obtain ⟨b9t, rfl, rfl, h⟩ := h2M
   refine ⟨(h2L _ c0y.lt1 (Inv.a5J (Fi := []) c0y)), ?_⟩
   refine a5R (e := 27) (c := d6) (xs := [b9t]) e7v (d2p _ _ _ _ _ _ _ _) rfl rfl a7O a7P (nb rfl) fun h9Z i0a e6m h2N c4i e6Y => ?_
   refine ⟨(e6Y _ e7v.lt1), ?_⟩
   obtain ⟨h2O, h⟩ := h
   refine d8N (s := scr_11l6_3) (xs := ccr_11l6_3) (c4i.bring 5) hcr_11l6_3 (h2N.srcO ((c4i.bring 5).bring 1)) h2O fun d8p h2P e6n h2Q h2R i0b => ?_
   refine t1 s5 ?_
   refine k3 ((h2R.bring 1).drop.bring 1) Tryd.sizeOf25 (vs := [(vs d8p)]) (cs' := [(vi cr_11l6_0), (vi cr_11l6_1), (vs scr_11j1_2), (vs d8p)]) rfl rfl (nb rfl) rfl rfl fun i0c h2S i0d => ?_
   refine a8 (s9 _ _ _ _ _ _) ?_
   exact hn6 _ _ _ (hm6 _ _ h).2 ⟨((IntKind.wrap .i64 (a7D + 1)), cr_11l6_0, cr_11l6_1, (ccr_11l6_3 ++ [b9t]), cr_6l6), d7U, d8p, h2P, rfl, rfl, h2Q, (((((h2S.bring 1).bring 4).bring 4).bring 4).bring 4), (hm6 _ _ h).1⟩
  ·replace h := h.2 b7F
   exact hx2 _ _ (hj2 cr_11l6_0 cr_11l6_1 ccr_11j1_2 ccr_11l6_3 cr_6l6 Fcr_11j1_2 scr_11l6_3 Fcr_11l6_3 H _ hcr_11j1_2 hcr_11l6_3 (((((I.bring 4).bring 4).bring 4).bring 4).bring 4) h)
 refine s8 fun j1 hx1 => ?_
 obtain ⟨d8q, c4q, h2T, h2U⟩ := h
 refine I0 (J := fun n l w => ∃ (s : Int × Int × Int × (List a7) × (List d5) × d5) (H : Hp) (scr_11l7_2 : Sl) (Fcr_11l7_2 : Frag) (scr_11l7_3 : Sl) (Fcr_11l7_3 : Frag) , n = c4q s ∧ l = (match s with | (a6O, cr_11l7_0, cr_11l7_1, ccr_11l7_2, ccr_11l7_3, cr_6l7) => [(vi a6O)]) ∧ (match s with | (a6O, cr_11l7_0, cr_11l7_1, ccr_11l7_2, ccr_11l7_3, cr_6l7) => RowL 24 4 b8 scr_11l7_2 ccr_11l7_2 Fcr_11l7_2) ∧ (match s with | (a6O, cr_11l7_0, cr_11l7_1, ccr_11l7_2, ccr_11l7_3, cr_6l7) => RowL 27 4 d6 scr_11l7_3 ccr_11l7_3 Fcr_11l7_3) ∧ (match s with | (a6O, cr_11l7_0, cr_11l7_1, ccr_11l7_2, ccr_11l7_3, cr_6l7) => Inv w0 ps0 H0 H [bx L1 27 [(vi cr_11l7_0), (vi cr_11l7_1), (vs scr_11l7_2), (vs scr_11l7_3)], bx g_7 27 (d6 cr_6l7), bx g_2 27 (d6 x0), Fcr_11l7_2, Fcr_11l7_3] w) ∧ d8q s H) ⟨_, (0, x0.b9, x0.fOp, [], [], (d5.mk 0 0 (Sl.mk none 0 0) (Sl.mk none 0 0))), H, (Sl.mk none 0 0), [], (Sl.mk none 0 0), [], rfl, rfl, (RowL.nil P7 P8), (RowL.nil a7O a7P), ((((b4N.nil.nil.bring 1).bring 4).bring 4).bring 4), h2T⟩ ?_
 rintro i0e τ_338 w next7 ⟨⟨a6O, cr_11l7_0, cr_11l7_1, ccr_11l7_2, ccr_11l7_3, cr_6l7⟩, H, scr_11l7_2, Fcr_11l7_2, scr_11l7_3, Fcr_11l7_3, rfl, d8r, hcr_11l7_2, hcr_11l7_3, I, h2V⟩ hn7
 dsimp only at d8r I hcr_11l7_2 hcr_11l7_3
 simp only [List.map_cons, List.map_nil, List.cons.injEq, and_true] at d8r
 have e4 := d8r
 simp only [e4]
 obtain ⟨n7, hm7, h⟩ : ∃ n7 : (Int × Int × Int × (List a7) × (List d5) × d5) → Hp → Prop, (∀ s' H', n7 s' H' → d8q s' H' ∧ c4q s' < c4q (a6O, cr_11l7_0, cr_11l7_1, ccr_11l7_2, ccr_11l7_3, cr_6l7)) ∧ W0 x0 a6O cr_11l7_0 cr_11l7_1 ccr_11l7_2 ccr_11l7_3 cr_6l7 H n7 K := ⟨_, fun _ _ h => h, h2U (a6O, cr_11l7_0, cr_11l7_1, ccr_11l7_2, ccr_11l7_3, cr_6l7) H (fun s' H' => d8q s' H' ∧ c4q s' < c4q (a6O, cr_11l7_0, cr_11l7_1, ccr_11l7_2, ccr_11l7_3, cr_6l7)) h2V (fun _ _ a b => ⟨a, b⟩)⟩
 unfold e0C
 unfold W0 at h
 refine a8 u1 ?_
 refine d9 (ld1 Tryd.isAgg22 ((I.bring 2).at1 (o := 2) (vs := [(vs x0.g5)]) (nb rfl) rfl)) ?_
 refine a8 (q6 _ _ _) ?_
 refine a8 (o3 _ _ _ _ _ _) ?_
 refine g8 (fun d8s => ?_) (fun d8s => ?_)
 ·replace h := h.1 d8s
  refine a9F I fun e6p c0z => ?_
  refine t1 u1 ?_
  refine t1 u1 ?_
  refine G8 (ld1 Tryd.isAgg22 (c0z.at1 (o := 2) (vs := [(vs scr_11l7_2)]) (nb rfl) rfl)) ?_
  refine G8 (ld1 Tryd.isAgg22 ((c0z.bring 2).at1 (o := 2) (vs := [(vs x0.g5)]) (nb rfl) rfl)) ?_
  obtain ⟨h2W, h2X, c7v, d8t, h⟩ := h
  obtain ⟨i0f, i0g, h2Y, d8t⟩ := d8t
  refine t1 (m7 h2Y _ _ _ _ h2W h2X) ?_
  refine G8 (ldA (vs := (b8 c7v)) Tryd.isAgg24 Tryd.sizeOf24 rfl (c0z.atH d8t)) ?_
  refine f5 (cap := []) (fun args w => Tryd.call40 args w) ?_
  refine i6 (Fi := []) (Fr := [bx L1 27 [(vi cr_11l7_0), (vi cr_11l7_1), (vs scr_11l7_2), (vs scr_11l7_3)], bx g_7 27 (d6 cr_6l7), bx g_2 27 (d6 x0), Fcr_11l7_2, Fcr_11l7_3]) c0z (h) (fun i0h d7V i0i i0j e7w i0k h2Z h3a => ?_) (fun _ _ _ _ _ q => q.elim)
  obtain ⟨b9u, rfl, rfl, h⟩ := h3a
  refine ⟨(h2Z _ c0z.lt1 (Inv.a5J (Fi := []) c0z)), ?_⟩
  refine a5R (e := 24) (c := b8) (xs := [b9u]) e7w (b5m _ _ _ _ _ _) rfl rfl P7 P8 (nb rfl) fun i0l i0m i0n h3b e7x h3c => ?_
  refine ⟨(h3c _ e7w.lt1), ?_⟩
  obtain ⟨h3d, h⟩ := h
  refine c7I (s := scr_11l7_2) (xs := ccr_11l7_2) (e7x.bring 4) hcr_11l7_2 (h3b.srcO ((e7x.bring 4).bring 1)) h3d fun d8u h3e i0o h3f d7Q h2p => ?_
  refine t1 u1 ?_
  refine k3 ((d7Q.bring 1).drop.bring 1) Tryd.sizeOf22 (vs := [(vs d8u)]) (cs' := [(vi cr_11l7_0), (vi cr_11l7_1), (vs d8u), (vs scr_11l7_3)]) rfl rfl (nb rfl) rfl rfl fun i0p h3g i0q => ?_
  refine a8 (s9 _ _ _ _ _ _) ?_
  exact hn7 _ _ _ (hm7 _ _ h).2 ⟨((IntKind.wrap .i64 (a6O + 1)), cr_11l7_0, cr_11l7_1, (ccr_11l7_2 ++ [b9u]), ccr_11l7_3, cr_6l7), d7V, d8u, h3e, scr_11l7_3, Fcr_11l7_3, rfl, rfl, h3f, hcr_11l7_3, (((((h3g.bring 4).bring 2).bring 4).bring 4).bring 4), (hm7 _ _ h).1⟩
 ·replace h := h.2 d8s
  exact hx1 _ _ (hj1 cr_11l7_0 cr_11l7_1 ccr_11l7_2 ccr_11l7_3 cr_6l7 scr_11l7_2 Fcr_11l7_2 scr_11l7_3 Fcr_11l7_3 H _ hcr_11l7_2 hcr_11l7_3 (((((I.bring 4).bring 4).bring 4).bring 4).bring 4) h)
theorem b1G (x0 : d5) {H : Hp} {K : d5 → Hp → Prop} (h : a0o x0 H K) : a0f x0 H K := by
 intro w I
 refine g7c ?_
 refine b1a x0 I (fun r0 H' w' I' hk => ⟨H', _, I', r0, rfl, rfl, hk⟩) h
def a0p (x0 : d5) (H : Hp) (K : d5 → Int → Hp → Prop) : Prop :=
 a3t x0 H (fun (k4 : Int) (a1P : Hp) =>
 (¬ (k4 = 0) →
 K (d5.mk 0 0 (Sl.mk none 0 0) (Sl.mk none 0 0)) k4 a1P) ∧
 (k4 = 0 →
 a0f x0 a1P (fun (K8 : d5) (a0D : Hp) =>
 K K8 0 a0D)))
theorem b1b (x0 : d5) {w0 w : World} {ps0 : Nat → Prop} {H0 H : Hp} {K : d5 → Int → Hp → Prop} {R : Value → World → Prop} {E : Pan} (I : Inv w0 ps0 H0 H [] w) (hR : ∀ (r0 : d5) (r1 : Int) (H' : Hp) (w' : World) (_ : Inv w0 ps0 H0 H' [] w') (_ : K r0 r1 H'), R (Value.tuple #[(Value.agg (d6 r0).toArray), (vi r1)]) w') (h : a0p x0 H K) : F14 (Value.agg (d6 x0).toArray) w R E := by
 unfold a0p at h
 unfold F14
 refine F7 I (cs := (d6 x0)) rfl fun g_2 w_3 I_4 k_5 => ?_
 refine u2 I_4 Tryd.zeroValue27 (cs := [(vi 0), (vi 0), (Value.slice none 0 0), (Value.slice none 0 0)]) rfl fun g_7 w_8 I_9 a6F => ?_
 refine d9 (ldA Tryd.isAgg27 Tryd.sizeOf27 rfl ((I_9.bring 1).at1 (o := 0) (vs := (d6 x0)) (nb rfl) rfl)) ?_
 refine f5 (cap := []) (fun args w => Tryd.call43 args w) ?_
 refine i6 (Fi := []) (Fr := [bx g_7 27 [(vi 0), (vi 0), (Value.slice none 0 0), (Value.slice none 0 0)], bx g_2 27 (d6 x0)]) I_9 (h) (fun d1I a1P d1J m6 a4E c2z d1K b3v => ?_) (fun _ _ _ _ _ q => q.elim)
 obtain ⟨k4, rfl, rfl, h⟩ := b3v
 refine a8 (o4 _ _ _ _ _ _) ?_
 refine a3g (fun a8r => ?_) (fun a8r => ?_)
 ·replace h := h.1 a8r
  refine a8 (c6d ) ?_
  refine k3 a4E Tryd.sizeOf27 (vs := [(vi 0), (vi 0), (Value.slice none 0 0), (Value.slice none 0 0)]) (cs' := [(vi 0), (vi 0), (Value.slice none 0 0), (Value.slice none 0 0)]) rfl rfl (nb rfl) rfl rfl fun o7 X6 a9P => ?_
  refine t6 Tryd.isAgg27 Tryd.sizeOf27 rfl (X6.at1 (o := 0) (vs := [(vi 0), (vi 0), (Value.slice none 0 0), (Value.slice none 0 0)]) (nb rfl) rfl) ?_
  exact hR (d5.mk 0 0 (Sl.mk none 0 0) (Sl.mk none 0 0)) k4 a1P _ X6.drop.drop h
 ·replace h := h.2 a8r
  refine d9 (ldA Tryd.isAgg27 Tryd.sizeOf27 rfl ((a4E.bring 1).at1 (o := 0) (vs := (d6 x0)) (nb rfl) rfl)) ?_
  refine f5 (cap := []) (fun args w => Tryd.call44 args w) ?_
  refine i6 (Fi := []) (Fr := [bx g_7 27 [(vi 0), (vi 0), (Value.slice none 0 0), (Value.slice none 0 0)], bx g_2 27 (d6 x0)]) a4E (h) (fun c9a a0D c5b q8 a2P c9b c4V b2m => ?_) (fun _ _ _ _ _ q => q.elim)
  obtain ⟨K8, rfl, rfl, h⟩ := b2m
  refine k3 a2P Tryd.sizeOf27 (vs := (d6 K8)) (cs' := (d6 K8)) rfl rfl (nb rfl) rfl rfl fun w5 a3u b8M => ?_
  refine t6 Tryd.isAgg27 Tryd.sizeOf27 rfl (a3u.at1 (o := 0) (vs := (d6 K8)) (nb rfl) rfl) ?_
  exact hR K8 0 a0D _ a3u.drop.drop h
theorem b1H (x0 : d5) {H : Hp} {K : d5 → Int → Hp → Prop} (h : a0p x0 H K) : a0g x0 H K := by
 intro w I
 refine g5b ?_
 refine b1b x0 I (fun r0 r1 H' w' I' hk => ⟨H', _, I', r0, r1, rfl, rfl, hk⟩) h
def N6 (x0 : a7) (x1 : d5) (H : Hp) (K : Bool → Hp → Prop) : Prop :=
 a2y H (fun (k4 : Bool) (a1P : Hp) =>
 ((!k4) = true →
 K false a1P) ∧
 ((!k4) = false →
 a2m x0 a1P (fun (R2 : a7) (c7w : Int) (g8C : Hp) =>
 a2O x0 g8C (fun (G5 : a7) (a3d : Int) (a2z : Hp) =>
 a0d x1 a2z (fun (F9 : d5) (b7G : Int) (b5j : Hp) =>
 a0g x1 b5j (fun (a6k : d5) (a2f : Int) (b3A : Hp) =>
 (((!decide (c7w = a3d)) || (!decide (b7G = a2f))) = true →
 K false b3A) ∧
 (((!decide (c7w = a3d)) || (!decide (b7G = a2f))) = false →
 TG ((decide (a3d = 0)) = true) (E4 R2 G5 b3A) false b3A (fun (a5H : Bool) (a3C : Hp) =>
 ((((decide (a3d = 0)) && (!a5H)) || ((!decide (a3d = 0)) && ((!decide (R2.b9 = 0)) || (decide (0 < (R2.d8.n : Int)))))) = true →
 K false a3C) ∧
 ((((decide (a3d = 0)) && (!a5H)) || ((!decide (a3d = 0)) && ((!decide (R2.b9 = 0)) || (decide (0 < (R2.d8.n : Int)))))) = false →
 TG ((decide (a2f = 0)) = true) (C5 F9 a6k a3C) false a3C (fun (a2F : Bool) (a4B : Hp) =>
 K (((decide (a2f = 0)) && a2F) || ((((!decide (a2f = 0)) && (decide (F9.b9 = 0))) && (decide ((F9.i7.n : Int) = 0))) && (decide ((F9.g5.n : Int) = 0)))) a4B))))))))))
theorem a7E (x0 : a7) (x1 : d5) {w0 w : World} {ps0 : Nat → Prop} {H0 H : Hp} {K : Bool → Hp → Prop} {R : Value → World → Prop} {E : Pan} (I : Inv w0 ps0 H0 H [] w) (hR : ∀ (r0 : Bool) (H' : Hp) (w' : World) (_ : Inv w0 ps0 H0 H' [] w') (_ : K r0 H'), R (Value.bool r0) w') (h : N6 x0 x1 H K) : F3 (Value.agg (b8 x0).toArray) (Value.agg (d6 x1).toArray) w R E := by
 unfold N6 at h
 unfold F3
 refine F7 I (cs := (b8 x0)) rfl fun g_2 w_3 I_4 k_5 => ?_
 refine F7 I_4 (cs := (d6 x1)) rfl fun g_7 w_8 I_9 a6F => ?_
 refine f5 (cap := []) (fun args w => Tryd.call10 args w) ?_
 refine i6 (Fi := []) (Fr := [bx g_7 27 (d6 x1), bx g_2 24 (b8 x0)]) I_9 (h) (fun d1I a1P d1J m6 a4E c2z d1K b3v => ?_) (fun _ _ _ _ _ q => q.elim)
 obtain ⟨k4, rfl, rfl, h⟩ := b3v
 refine a8 (C4 _) ?_
 refine j9 (fun d8v => ?_) (fun d8v => ?_)
 ·replace h := h.1 d8v
  exact hR false a1P _ a4E.drop.drop h
 ·replace h := h.2 d8v
  refine d9 (ldA Tryd.isAgg24 Tryd.sizeOf24 rfl ((a4E.bring 1).at1 (o := 0) (vs := (b8 x0)) (nb rfl) rfl)) ?_
  refine f5 (cap := []) (fun args w => Tryd.call11 args w) ?_
  refine i6 (Fi := []) (Fr := [bx g_7 27 (d6 x1), bx g_2 24 (b8 x0)]) a4E (h) (fun i2G g8C i2H a2J c4U d3G f9L h6p => ?_) (fun _ _ _ _ _ q => q.elim)
  obtain ⟨R2, c7w, rfl, rfl, h⟩ := h6p
  refine a8 (i4 _ _ _ rfl) ?_
  refine a8 (i4 _ _ (vi c7w) rfl) ?_
  refine u2 c4U Tryd.zeroValue24 (cs := [(vi 0), (vi 0), (Value.string ⟨#[]⟩), (Value.slice none 0 0)]) rfl fun c2E b9n e5s h5W => ?_
  refine k3 e5s Tryd.sizeOf24 (vs := (b8 R2)) (cs' := (b8 R2)) rfl rfl (nb rfl) rfl rfl fun z2 a5a c5T => ?_
  refine d9 (ldA Tryd.isAgg24 Tryd.sizeOf24 rfl ((a5a.bring 2).at1 (o := 0) (vs := (b8 x0)) (nb rfl) rfl)) ?_
  refine f5 (cap := []) (fun args w => Tryd.call12 args w) ?_
  refine i6 (Fi := []) (Fr := [bx c2E 24 (b8 R2), bx g_7 27 (d6 x1), bx g_2 24 (b8 x0)]) a5a (h) (fun d0J a2z g2D D3 b4X c1V d5i d0K => ?_) (fun _ _ _ _ _ q => q.elim)
  obtain ⟨G5, a3d, rfl, rfl, h⟩ := d0K
  refine a8 (i4 _ _ _ rfl) ?_
  refine a8 (i4 _ _ (vi a3d) rfl) ?_
  refine u2 b4X Tryd.zeroValue24 (cs := [(vi 0), (vi 0), (Value.string ⟨#[]⟩), (Value.slice none 0 0)]) rfl fun c1H K5 c9x f9P => ?_
  refine k3 c9x Tryd.sizeOf24 (vs := (b8 G5)) (cs' := (b8 G5)) rfl rfl (nb rfl) rfl rfl fun d0P c5s h4Z => ?_
  refine d9 (ldA Tryd.isAgg27 Tryd.sizeOf27 rfl ((c5s.bring 2).at1 (o := 0) (vs := (d6 x1)) (nb rfl) rfl)) ?_
  refine f5 (cap := []) (fun args w => Tryd.call13 args w) ?_
  refine i6 (Fi := []) (Fr := [bx c1H 24 (b8 G5), bx c2E 24 (b8 R2), bx g_7 27 (d6 x1), bx g_2 24 (b8 x0)]) c5s (h) (fun i2I b5j i2J c5l d4y d5d i2K h6q => ?_) (fun _ _ _ _ _ q => q.elim)
  obtain ⟨F9, b7G, rfl, rfl, h⟩ := h6q
  refine a8 (i4 _ _ _ rfl) ?_
  refine a8 (i4 _ _ (vi b7G) rfl) ?_
  refine u2 d4y Tryd.zeroValue27 (cs := [(vi 0), (vi 0), (Value.slice none 0 0), (Value.slice none 0 0)]) rfl fun d1Q a9I c8Z d4j => ?_
  refine k3 c8Z Tryd.sizeOf27 (vs := (d6 F9)) (cs' := (d6 F9)) rfl rfl (nb rfl) rfl rfl fun U7 c5I g2G => ?_
  refine d9 (ldA Tryd.isAgg27 Tryd.sizeOf27 rfl ((c5I.bring 3).at1 (o := 0) (vs := (d6 x1)) (nb rfl) rfl)) ?_
  refine f5 (cap := []) (fun args w => Tryd.call14 args w) ?_
  refine i6 (Fi := []) (Fr := [bx d1Q 27 (d6 F9), bx c1H 24 (b8 G5), bx c2E 24 (b8 R2), bx g_7 27 (d6 x1), bx g_2 24 (b8 x0)]) c5I (h) (fun i2L b3A i2M a0r h6r i2N i2O h6s => ?_) (fun _ _ _ _ _ q => q.elim)
  obtain ⟨a6k, a2f, rfl, rfl, h⟩ := h6s
  refine a8 (i4 _ _ _ rfl) ?_
  refine a8 (i4 _ _ (vi a2f) rfl) ?_
  refine u2 h6r Tryd.zeroValue27 (cs := [(vi 0), (vi 0), (Value.slice none 0 0), (Value.slice none 0 0)]) rfl fun d8w Z1 e5y h6f => ?_
  refine k3 e5y Tryd.sizeOf27 (vs := (d6 a6k)) (cs' := (d6 a6k)) rfl rfl (nb rfl) rfl rfl fun d6u b3y i2P => ?_
  refine a8 (o4 _ _ _ _ _ _) ?_
  try simp only [m4]
  try simp only [m4, F8, P1, M9, G2, P5, P2, P3, P4, P6]
  refine a8 (Pu.g fun hb => by have b6 := hb; first | exact (o4 _ _ _ _ _ _) | (simp only [b7 b6]; exact (o4 _ _ _ _ _ _)) | (simp only [d7 b6, b7 b6, b7 hb, l9 b6, f9]; exact (o4 _ _ _ _ _ _))) ?_
  refine a8 (A5 _ _) ?_
  refine j9 (fun b7i => ?_) (fun b7i => ?_)
  ·replace h := h.1 b7i
   exact hR false b3A _ b3y.drop.drop.drop.drop.drop.drop h
  ·replace h := h.2 b7i
   refine a8 (f4 _ _ _ _ _ _) ?_
   refine d9 (Ld.g fun hb => by have b6 := hb; first | exact (ldA Tryd.isAgg24 Tryd.sizeOf24 rfl ((b3y.bring 3).at1 (o := 0) (vs := (b8 R2)) (nb rfl) rfl)) | (simp only [d7 b6, b7 b6, b7 hb, m8 b6]; exact (ldA Tryd.isAgg24 Tryd.sizeOf24 rfl ((b3y.bring 3).at1 (o := 0) (vs := (b8 R2)) (nb rfl) rfl))) | (simp only [d7 b6, b7 b6, b7 hb, f8 b6, f9]; exact (ldA Tryd.isAgg24 Tryd.sizeOf24 rfl ((b3y.bring 3).at1 (o := 0) (vs := (b8 R2)) (nb rfl) rfl)))) ?_
   refine d9 (Ld.g fun hb => by have b6 := hb; first | exact (ldA Tryd.isAgg24 Tryd.sizeOf24 rfl ((b3y.bring 2).at1 (o := 0) (vs := (b8 G5)) (nb rfl) rfl)) | (simp only [d7 b6, b7 b6, b7 hb, m8 b6]; exact (ldA Tryd.isAgg24 Tryd.sizeOf24 rfl ((b3y.bring 2).at1 (o := 0) (vs := (b8 G5)) (nb rfl) rfl))) | (simp only [d7 b6, b7 b6, b7 hb, f8 b6, f9]; exact (ldA Tryd.isAgg24 Tryd.sizeOf24 rfl ((b3y.bring 2).at1 (o := 0) (vs := (b8 G5)) (nb rfl) rfl)))) ?_
   refine W1 (D := fun e5C b9o => ∃ (a5H : Bool) (a3C : Hp) , e5C = (gv (decide (a3d = 0)) true (Value.bool a5H)) ∧ (Inv w0 ps0 H0 a3C [bx d8w 27 (d6 a6k), bx d1Q 27 (d6 F9), bx c1H 24 (b8 G5), bx c2E 24 (b8 R2), bx g_7 27 (d6 x1), bx g_2 24 (b8 x0)] b9o) ∧ (∀ i, i < d6u.heap.size → ¬ inF [] i → b9o.heap[i]? = d6u.heap[i]?) ∧ Hle b3A a3C ∧ (((((decide (a3d = 0)) && (!a5H)) || ((!decide (a3d = 0)) && ((!decide (R2.b9 = 0)) || (decide (0 < (R2.d8.n : Int)))))) = true →
 K false a3C) ∧
 ((((decide (a3d = 0)) && (!a5H)) || ((!decide (a3d = 0)) && ((!decide (R2.b9 = 0)) || (decide (0 < (R2.d8.n : Int)))))) = false →
 TG ((decide (a2f = 0)) = true) (C5 F9 a6k a3C) false a3C (fun (a2F : Bool) (a4B : Hp) =>
 K (((decide (a2f = 0)) && a2F) || ((((!decide (a2f = 0)) && (decide (F9.b9 = 0))) && (decide ((F9.i7.n : Int) = 0))) && (decide ((F9.g5.n : Int) = 0)))) a4B)))) (fun c0A => ?_) (fun c0A => ?_) ?_
   ·replace h := h.1 c0A
    have b6 := c0A
    try simp only [b7 b6]
    refine f5 (cap := []) (fun args w => Tryd.call15 args w) ?_
    refine i6 (Fi := []) (Fr := [bx d8w 27 (d6 a6k), bx d1Q 27 (d6 F9), bx c1H 24 (b8 G5), bx c2E 24 (b8 R2), bx g_7 27 (d6 x1), bx g_2 24 (b8 x0)]) b3y (h) (fun e5C a3C i2Q b9o a5I d4i g8D h6t => ?_) (fun _ _ _ _ _ q => q.elim)
    obtain ⟨a5H, rfl, rfl, h⟩ := h6t
    exact ⟨a5H, a3C, by first | rfl | rw [b7 c0A], a5I, g8D, d4i, h⟩
   ·exact ⟨false, b3A, by first | rfl | rw [a3k c0A], b3y, fun _ _ _ => rfl, Hle.refl _, h.2 c0A⟩
   ·clear h
    rintro e5C b9o ⟨a5H, a3C, rfl, a5I, g8D, d4i, h⟩
    refine a8 (Pu.g fun hb => by have b6 := hb; first | exact (C4 _) | (simp only [b7 b6]; exact (C4 _)) | (simp only [d7 b6, b7 b6, b7 hb, f8 b6, f9]; exact (C4 _))) ?_
    refine a8 (k9 _ _) ?_
    try simp only [m4]
    refine a8 (Pu.g fun hb => by have b6 := hb; first | exact (o4 _ _ _ _ _ _) | (simp only [b7 b6]; exact (o4 _ _ _ _ _ _)) | (simp only [d7 b6, b7 b6, b7 hb, l9 b6, f9]; exact (o4 _ _ _ _ _ _))) ?_
    try simp only [F8, G2]
    refine a8 (Pu.e (E3 _ _ _) (Pu.g fun hb => by obtain ⟨b6, i5⟩ := J3 hb; first | exact m9 | (simp only [d7 b6, b7 b6, d7 i5, b7 i5, b7 hb, f9]; exact m9) | (simp only [d7 b6, b7 b6, d7 i5, b7 i5, b7 hb, m8 hb]; exact m9) | (simp only [d7 b6, b7 b6, d7 i5, b7 i5, b7 hb, f8 hb, f9]; exact m9))) ?_
    refine d9 (Ld.e (E3 _ _ _) (Ld.g fun hb => by obtain ⟨b6, i5⟩ := J3 hb; first | exact (ld1 Tryd.isAgg3 ((a5I.bring 3).at1 (o := 0) (vs := [(vi R2.b9)]) (nb rfl) rfl)) | (simp only [b7 hb]; exact (ld1 Tryd.isAgg3 ((a5I.bring 3).at1 (o := 0) (vs := [(vi R2.b9)]) (nb rfl) rfl))) | (simp only [d7 b6, b7 b6, d7 i5, b7 i5, b7 hb, m8 hb]; exact (ld1 Tryd.isAgg3 ((a5I.bring 3).at1 (o := 0) (vs := [(vi R2.b9)]) (nb rfl) rfl))) | (simp only [d7 b6, b7 b6, d7 i5, b7 i5, b7 hb, f8 hb, f9]; exact (ld1 Tryd.isAgg3 ((a5I.bring 3).at1 (o := 0) (vs := [(vi R2.b9)]) (nb rfl) rfl))))) ?_
    refine a8 (Pu.e (E3 _ _ _) (Pu.g fun hb => by obtain ⟨b6, i5⟩ := J3 hb; first | exact (o4 _ _ _ _ _ _) | (simp only [b7 hb]; exact (o4 _ _ _ _ _ _)) | (simp only [d7 b6, b7 b6, d7 i5, b7 i5, b7 hb, m8 hb]; exact (o4 _ _ _ _ _ _)) | (simp only [d7 b6, b7 b6, d7 i5, b7 i5, b7 hb, f8 hb, f9]; exact (o4 _ _ _ _ _ _)))) ?_
    try simp only [F8]
    refine a8 (Pu.e (a6S _ _ _) (Pu.g fun hb => by obtain ⟨W4, L6⟩ := a7M hb; obtain ⟨b6, i5⟩ := J3 W4; first | exact i8 | (simp only [d7 b6, b7 b6, d7 i5, b7 i5, d7 L6, b7 L6, b7 hb, b7 W4, f9]; exact i8) | (simp only [d7 b6, b7 b6, d7 i5, b7 i5, d7 L6, b7 L6, b7 hb, b7 W4, m8 hb]; exact i8) | (simp only [d7 b6, b7 b6, d7 i5, b7 i5, d7 L6, b7 L6, b7 hb, b7 W4, f8 hb, f9]; exact i8))) ?_
    refine d9 (Ld.e (a6S _ _ _) (Ld.g fun hb => by obtain ⟨W4, L6⟩ := a7M hb; obtain ⟨b6, i5⟩ := J3 W4; first | exact (ld1 Tryd.isAgg22 ((a5I.bring 3).at1 (o := 3) (vs := [(vs R2.d8)]) (nb rfl) rfl)) | (simp only [b7 hb]; exact (ld1 Tryd.isAgg22 ((a5I.bring 3).at1 (o := 3) (vs := [(vs R2.d8)]) (nb rfl) rfl))) | (simp only [d7 b6, b7 b6, d7 i5, b7 i5, d7 L6, b7 L6, b7 hb, b7 W4, m8 hb]; exact (ld1 Tryd.isAgg22 ((a5I.bring 3).at1 (o := 3) (vs := [(vs R2.d8)]) (nb rfl) rfl))) | (simp only [d7 b6, b7 b6, d7 i5, b7 i5, d7 L6, b7 L6, b7 hb, b7 W4, f8 hb, f9]; exact (ld1 Tryd.isAgg22 ((a5I.bring 3).at1 (o := 3) (vs := [(vs R2.d8)]) (nb rfl) rfl))))) ?_
    refine a8 (Pu.e (a6S _ _ _) (Pu.g fun hb => by obtain ⟨W4, L6⟩ := a7M hb; obtain ⟨b6, i5⟩ := J3 W4; first | exact (q6 _ _ _) | (simp only [b7 hb]; exact (q6 _ _ _)) | (simp only [d7 b6, b7 b6, d7 i5, b7 i5, d7 L6, b7 L6, b7 hb, b7 W4, m8 hb]; exact (q6 _ _ _)) | (simp only [d7 b6, b7 b6, d7 i5, b7 i5, d7 L6, b7 L6, b7 hb, b7 W4, f8 hb, f9]; exact (q6 _ _ _)))) ?_
    refine a8 (Pu.e (a6S _ _ _) (Pu.g fun hb => by obtain ⟨W4, L6⟩ := a7M hb; obtain ⟨b6, i5⟩ := J3 W4; first | exact (D7 _ _ _ _ _ _) | (simp only [b7 hb]; exact (D7 _ _ _ _ _ _)) | (simp only [d7 b6, b7 b6, d7 i5, b7 i5, d7 L6, b7 L6, b7 hb, b7 W4, m8 hb]; exact (D7 _ _ _ _ _ _)) | (simp only [d7 b6, b7 b6, d7 i5, b7 i5, d7 L6, b7 L6, b7 hb, b7 W4, f8 hb, f9]; exact (D7 _ _ _ _ _ _)))) ?_
    refine a8 (Pu.e (E3 _ _ _) (Pu.g fun hb => by obtain ⟨b6, i5⟩ := J3 hb; first | exact (A5 _ _) | (simp only [b7 hb]; exact (A5 _ _)) | (simp only [b7 hb, m8 hb]; exact (A5 _ _)) | (simp only [b7 hb, f8 hb]; exact (A5 _ _)))) ?_
    refine a8 (Pu.g fun hb => by have b6 := hb; first | exact (k9 _ _) | (simp only [b7 b6, J1 b6]; exact (k9 _ _)) | (simp only [d7 b6, b7 b6, b7 hb, l9 b6, f9]; exact (k9 _ _))) ?_
    refine a8 (A5 _ _) ?_
    refine j9 (fun d8x => ?_) (fun d8x => ?_)
    ·replace h := h.1 d8x
     exact hR false a3C _ a5I.drop.drop.drop.drop.drop.drop h
    ·replace h := h.2 d8x
     refine a8 (f4 _ _ _ _ _ _) ?_
     refine d9 (Ld.g fun hb => by have b6 := hb; first | exact (ldA Tryd.isAgg27 Tryd.sizeOf27 rfl ((a5I.bring 1).at1 (o := 0) (vs := (d6 F9)) (nb rfl) rfl)) | (simp only [d7 b6, b7 b6, b7 hb, m8 b6]; exact (ldA Tryd.isAgg27 Tryd.sizeOf27 rfl ((a5I.bring 1).at1 (o := 0) (vs := (d6 F9)) (nb rfl) rfl))) | (simp only [d7 b6, b7 b6, b7 hb, f8 b6, f9]; exact (ldA Tryd.isAgg27 Tryd.sizeOf27 rfl ((a5I.bring 1).at1 (o := 0) (vs := (d6 F9)) (nb rfl) rfl)))) ?_
     refine d9 (Ld.g fun hb => by have b6 := hb; first | exact (ldA Tryd.isAgg27 Tryd.sizeOf27 rfl (a5I.at1 (o := 0) (vs := (d6 a6k)) (nb rfl) rfl)) | (simp only [d7 b6, b7 b6, b7 hb, m8 b6]; exact (ldA Tryd.isAgg27 Tryd.sizeOf27 rfl (a5I.at1 (o := 0) (vs := (d6 a6k)) (nb rfl) rfl))) | (simp only [d7 b6, b7 b6, b7 hb, f8 b6, f9]; exact (ldA Tryd.isAgg27 Tryd.sizeOf27 rfl (a5I.at1 (o := 0) (vs := (d6 a6k)) (nb rfl) rfl)))) ?_
     refine W1 (D := fun c6N a3m => ∃ (a2F : Bool) (a4B : Hp) , c6N = (gv (decide (a2f = 0)) true (Value.bool a2F)) ∧ (Inv w0 ps0 H0 a4B [bx d8w 27 (d6 a6k), bx d1Q 27 (d6 F9), bx c1H 24 (b8 G5), bx c2E 24 (b8 R2), bx g_7 27 (d6 x1), bx g_2 24 (b8 x0)] a3m) ∧ (∀ i, i < b9o.heap.size → ¬ inF [] i → a3m.heap[i]? = b9o.heap[i]?) ∧ Hle a3C a4B ∧ (K (((decide (a2f = 0)) && a2F) || ((((!decide (a2f = 0)) && (decide (F9.b9 = 0))) && (decide ((F9.i7.n : Int) = 0))) && (decide ((F9.g5.n : Int) = 0)))) a4B)) (fun c0B => ?_) (fun c0B => ?_) ?_
     ·replace h := h.1 c0B
      have b6 := c0B
      try simp only [b7 b6]
      refine f5 (cap := []) (fun args w => Tryd.call16 args w) ?_
      refine i6 (Fi := []) (Fr := [bx d8w 27 (d6 a6k), bx d1Q 27 (d6 F9), bx c1H 24 (b8 G5), bx c2E 24 (b8 R2), bx g_7 27 (d6 x1), bx g_2 24 (b8 x0)]) a5I (h) (fun c6N a4B g9f a3m a6G d4r d4s d4t => ?_) (fun _ _ _ _ _ q => q.elim)
      obtain ⟨a2F, rfl, rfl, h⟩ := d4t
      exact ⟨a2F, a4B, by first | rfl | rw [b7 c0B], a6G, d4s, d4r, h⟩
     ·exact ⟨false, a3C, by first | rfl | rw [a3k c0B], a5I, fun _ _ _ => rfl, Hle.refl _, h.2 c0B⟩
     ·clear h
      rintro c6N a3m ⟨a2F, a4B, rfl, a6G, d4s, d4r, h⟩
      refine a8 (k9 _ _) ?_
      try simp only [m4]
      refine a8 (Pu.g fun hb => by have b6 := hb; first | exact (o4 _ _ _ _ _ _) | (simp only [b7 b6]; exact (o4 _ _ _ _ _ _)) | (simp only [d7 b6, b7 b6, b7 hb, l9 b6, f9]; exact (o4 _ _ _ _ _ _))) ?_
      try simp only [F8]
      refine a8 (Pu.e (E3 _ _ _) (Pu.g fun hb => by obtain ⟨b6, i5⟩ := J3 hb; first | exact B3 | (simp only [d7 b6, b7 b6, d7 i5, b7 i5, b7 hb, f9]; exact B3) | (simp only [d7 b6, b7 b6, d7 i5, b7 i5, b7 hb, m8 hb]; exact B3) | (simp only [d7 b6, b7 b6, d7 i5, b7 i5, b7 hb, f8 hb, f9]; exact B3))) ?_
      refine d9 (Ld.e (E3 _ _ _) (Ld.g fun hb => by obtain ⟨b6, i5⟩ := J3 hb; first | exact (ld1 Tryd.isAgg3 ((a6G.bring 1).at1 (o := 0) (vs := [(vi F9.b9)]) (nb rfl) rfl)) | (simp only [b7 hb]; exact (ld1 Tryd.isAgg3 ((a6G.bring 1).at1 (o := 0) (vs := [(vi F9.b9)]) (nb rfl) rfl))) | (simp only [d7 b6, b7 b6, d7 i5, b7 i5, b7 hb, m8 hb]; exact (ld1 Tryd.isAgg3 ((a6G.bring 1).at1 (o := 0) (vs := [(vi F9.b9)]) (nb rfl) rfl))) | (simp only [d7 b6, b7 b6, d7 i5, b7 i5, b7 hb, f8 hb, f9]; exact (ld1 Tryd.isAgg3 ((a6G.bring 1).at1 (o := 0) (vs := [(vi F9.b9)]) (nb rfl) rfl))))) ?_
      refine a8 (Pu.e (E3 _ _ _) (Pu.g fun hb => by obtain ⟨b6, i5⟩ := J3 hb; first | exact (f4 _ _ _ _ _ _) | (simp only [b7 hb]; exact (f4 _ _ _ _ _ _)) | (simp only [d7 b6, b7 b6, d7 i5, b7 i5, b7 hb, m8 hb]; exact (f4 _ _ _ _ _ _)) | (simp only [d7 b6, b7 b6, d7 i5, b7 i5, b7 hb, f8 hb, f9]; exact (f4 _ _ _ _ _ _)))) ?_
      refine a8 (Pu.g fun hb => by have b6 := hb; first | exact (k9 _ _) | (simp only [b7 b6, J1 b6]; exact (k9 _ _)) | (simp only [d7 b6, b7 b6, b7 hb, l9 b6, f9]; exact (k9 _ _))) ?_
      try simp only [F8]
      refine a8 (Pu.e (E3 _ _ _) (Pu.g fun hb => by obtain ⟨b6, i5⟩ := J3 hb; first | exact s5 | (simp only [d7 b6, b7 b6, d7 i5, b7 i5, b7 hb, f9]; exact s5) | (simp only [d7 b6, b7 b6, d7 i5, b7 i5, b7 hb, m8 hb]; exact s5) | (simp only [d7 b6, b7 b6, d7 i5, b7 i5, b7 hb, f8 hb, f9]; exact s5))) ?_
      refine d9 (Ld.e (E3 _ _ _) (Ld.g fun hb => by obtain ⟨b6, i5⟩ := J3 hb; first | exact (ld1 Tryd.isAgg25 ((a6G.bring 1).at1 (o := 3) (vs := [(vs F9.i7)]) (nb rfl) rfl)) | (simp only [b7 hb]; exact (ld1 Tryd.isAgg25 ((a6G.bring 1).at1 (o := 3) (vs := [(vs F9.i7)]) (nb rfl) rfl))) | (simp only [d7 b6, b7 b6, d7 i5, b7 i5, b7 hb, m8 hb]; exact (ld1 Tryd.isAgg25 ((a6G.bring 1).at1 (o := 3) (vs := [(vs F9.i7)]) (nb rfl) rfl))) | (simp only [d7 b6, b7 b6, d7 i5, b7 i5, b7 hb, f8 hb, f9]; exact (ld1 Tryd.isAgg25 ((a6G.bring 1).at1 (o := 3) (vs := [(vs F9.i7)]) (nb rfl) rfl))))) ?_
      refine a8 (Pu.e (E3 _ _ _) (Pu.g fun hb => by obtain ⟨b6, i5⟩ := J3 hb; first | exact (H8 _ _ _) | (simp only [b7 hb]; exact (H8 _ _ _)) | (simp only [d7 b6, b7 b6, d7 i5, b7 i5, b7 hb, m8 hb]; exact (H8 _ _ _)) | (simp only [d7 b6, b7 b6, d7 i5, b7 i5, b7 hb, f8 hb, f9]; exact (H8 _ _ _)))) ?_
      refine a8 (Pu.e (E3 _ _ _) (Pu.g fun hb => by obtain ⟨b6, i5⟩ := J3 hb; first | exact (f4 _ _ _ _ _ _) | (simp only [b7 hb]; exact (f4 _ _ _ _ _ _)) | (simp only [d7 b6, b7 b6, d7 i5, b7 i5, b7 hb, m8 hb]; exact (f4 _ _ _ _ _ _)) | (simp only [d7 b6, b7 b6, d7 i5, b7 i5, b7 hb, f8 hb, f9]; exact (f4 _ _ _ _ _ _)))) ?_
      refine a8 (Pu.g fun hb => by have b6 := hb; first | exact (k9 _ _) | (simp only [b7 b6, J1 b6]; exact (k9 _ _)) | (simp only [d7 b6, b7 b6, b7 hb, l9 b6, f9]; exact (k9 _ _))) ?_
      try simp only [F8]
      refine a8 (Pu.e (E3 _ _ _) (Pu.g fun hb => by obtain ⟨b6, i5⟩ := J3 hb; first | exact u1 | (simp only [d7 b6, b7 b6, d7 i5, b7 i5, b7 hb, f9]; exact u1) | (simp only [d7 b6, b7 b6, d7 i5, b7 i5, b7 hb, m8 hb]; exact u1) | (simp only [d7 b6, b7 b6, d7 i5, b7 i5, b7 hb, f8 hb, f9]; exact u1))) ?_
      refine d9 (Ld.e (E3 _ _ _) (Ld.g fun hb => by obtain ⟨b6, i5⟩ := J3 hb; first | exact (ld1 Tryd.isAgg22 ((a6G.bring 1).at1 (o := 2) (vs := [(vs F9.g5)]) (nb rfl) rfl)) | (simp only [b7 hb]; exact (ld1 Tryd.isAgg22 ((a6G.bring 1).at1 (o := 2) (vs := [(vs F9.g5)]) (nb rfl) rfl))) | (simp only [d7 b6, b7 b6, d7 i5, b7 i5, b7 hb, m8 hb]; exact (ld1 Tryd.isAgg22 ((a6G.bring 1).at1 (o := 2) (vs := [(vs F9.g5)]) (nb rfl) rfl))) | (simp only [d7 b6, b7 b6, d7 i5, b7 i5, b7 hb, f8 hb, f9]; exact (ld1 Tryd.isAgg22 ((a6G.bring 1).at1 (o := 2) (vs := [(vs F9.g5)]) (nb rfl) rfl))))) ?_
      refine a8 (Pu.e (E3 _ _ _) (Pu.g fun hb => by obtain ⟨b6, i5⟩ := J3 hb; first | exact (q6 _ _ _) | (simp only [b7 hb]; exact (q6 _ _ _)) | (simp only [d7 b6, b7 b6, d7 i5, b7 i5, b7 hb, m8 hb]; exact (q6 _ _ _)) | (simp only [d7 b6, b7 b6, d7 i5, b7 i5, b7 hb, f8 hb, f9]; exact (q6 _ _ _)))) ?_
      refine a8 (Pu.e (E3 _ _ _) (Pu.g fun hb => by obtain ⟨b6, i5⟩ := J3 hb; first | exact (f4 _ _ _ _ _ _) | (simp only [b7 hb]; exact (f4 _ _ _ _ _ _)) | (simp only [d7 b6, b7 b6, d7 i5, b7 i5, b7 hb, m8 hb]; exact (f4 _ _ _ _ _ _)) | (simp only [d7 b6, b7 b6, d7 i5, b7 i5, b7 hb, f8 hb, f9]; exact (f4 _ _ _ _ _ _)))) ?_
      refine a8 (Pu.g fun hb => by have b6 := hb; first | exact (k9 _ _) | (simp only [b7 b6, J1 b6]; exact (k9 _ _)) | (simp only [d7 b6, b7 b6, b7 hb, l9 b6, f9]; exact (k9 _ _))) ?_
      refine a8 (A5 _ _) ?_
      exact hR (((decide (a2f = 0)) && a2F) || ((((!decide (a2f = 0)) && (decide (F9.b9 = 0))) && (decide ((F9.i7.n : Int) = 0))) && (decide ((F9.g5.n : Int) = 0)))) a4B _ a6G.drop.drop.drop.drop.drop.drop h
theorem a7L (x0 : a7) (x1 : d5) {H : Hp} {K : Bool → Hp → Prop} (h : N6 x0 x1 H K) : X5 x0 x1 H K := by
 intro w I
 refine g9K ?_
 refine a7E x0 x1 I (fun r0 H' w' I' hk => ⟨H', _, I', r0, rfl, rfl, hk⟩) h
end Go.Proofs.YtnhkdkcgdcgmdaaDoor
