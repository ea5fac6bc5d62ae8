/- Typed formulas of the program's functions that few laws need; printed by lift.py off the code. -/
import Derived.Test.YtnhkdkcgdcgmdaaDoorzDV1
import Derived.Test.YtnhkdkcgdcgmdaaDoorzDG1s
namespace Go.Proofs.YtnhkdkcgdcgmdaaDoor
open Go.RowKit
set_option maxRecDepth 100000
set_option maxHeartbeats 2000000
variable {w0 w : World} {ps0 : Nat → Prop} {H0 H : Hp} {R : RT} {E : Pan}
def T4 (H : Hp) (K : Bool → Hp → Prop) : Prop :=
 ∀ (s_2 : Sl) (b1S : Hp), Hle H b1S → SlH b1S 4 b6 s_2 [(d8.mk 2 0 ⟨#[120]⟩ (Sl.mk none 0 0)), (d8.mk 1 2 ⟨#[]⟩ (Sl.mk none 0 0))] → s_2.n ≤ s_2.c →
 ∀ (b6n : Sl) (c4A : Hp), Hle b1S c4A → SlH c4A 4 b6 b6n [(d8.mk 1 1 ⟨#[]⟩ (Sl.mk none 0 0))] → b6n.n ≤ b6n.c →
 ∀ (b6o : Sl) (b1t : Hp), Hle c4A b1t → SlH b1t 4 b6 b6o [(d8.mk 6 0 ⟨#[]⟩ s_2)] → b6o.n ≤ b6o.c →
 ∀ (a0U : Sl) (c4B : Hp), Hle b1t c4B → SlH c4B 2 l9 a0U [(i7.mk ⟨#[120]⟩ 0)] → a0U.n ≤ a0U.c →
 ∀ (a8m : Sl) (a1F : Hp), Hle c4B a1F → SlH a1F 6 f2 a8m [(m6.mk 1 ⟨#[120]⟩ b6n (Sl.mk none 0 0) (Sl.mk none 0 0) (Sl.mk none 0 0)), (m6.mk 1 ⟨#[120]⟩ b6o (Sl.mk none 0 0) (Sl.mk none 0 0) (Sl.mk none 0 0))] → a8m.n ≤ a8m.c →
 a4w (A5.mk a0U a8m) (Sl.mk none 0 0) 9 a1F (fun (a1e : M9) (b8d : Int) (a9M : Hp) =>
 ∃ c4C : Int, (((((decide (b8d = 0)) && (decide (a1e.X5 = 2))) && (decide (a1e.a3Y = 2))) && (decide ((a1e.S9.n : Int) = 1))) = true → (0 : Int) ≤ 0 ∧ (0 : Int) < a1e.S9.n ∧ EltH a9M a1e.S9 0 1 [(vi c4C)]) ∧
 K (((((decide (b8d = 0)) && (decide (a1e.X5 = 2))) && (decide (a1e.a3Y = 2))) && (decide ((a1e.S9.n : Int) = 1))) && (decide (c4C = 3))) a9M)
theorem a6J {K : Bool → Hp → Prop} (I : Inv w0 ps0 H0 H [] w) (hR : ∀ (r0 : Bool) (H' : Hp) (w' : World) (_ : Inv w0 ps0 H0 H' [] w') (_ : K r0 H'), R (vB r0) w') (h : T4 H K) : F17 w R E := by
 unfold T4 at h
 unfold F17
 refine a7 (c0w _ _) ?_
 refine a7 (a4g _ _) ?_
 refine X3 (e := 24) (c := b6) (xs := [(d8.mk 2 0 ⟨#[120]⟩ (Sl.mk none 0 0)), (d8.mk 1 2 ⟨#[]⟩ (Sl.mk none 0 0))]) I (c5y _ _ _ _ _ _ _ _ _ _ _ _) rfl rfl a1m a1o (nb rfl) fun s_2 F_3 w_4 h_5 I_6 k_7 => ?_
 refine a7 (a6A _ _ _ _) ?_
 refine A0 I_6 Tryd.zeroValue24 (cs := [(vi 0), (vi 0), (eS), (nS)]) rfl fun g_9 m4 a3i b5F => ?_
 refine m5 a3i Tryd.sizeOf24 (vs := [(vi 6), (vi 0), (eS), (vs s_2)]) (cs' := [(vi 6), (vi 0), (eS), (vs s_2)]) rfl rfl (nb rfl) rfl rfl fun a0j O7 a1E => ?_
 refine a7 (b5g _) ?_
 refine X3 (e := 58) (c := l9) (xs := [(i7.mk ⟨#[120]⟩ 0)]) O7 (c5x _ _) rfl rfl b2g b2h (nb rfl) fun a0U g3d a2T c4D a7R c2A => ?_
 refine a7 (a4g _ _) ?_
 refine X3 (e := 24) (c := b6) (xs := [(d8.mk 1 1 ⟨#[]⟩ (Sl.mk none 0 0))]) a7R (b4h _ _ _ _ _ _) rfl rfl a1m a1o (nb rfl) fun b6n g6W z8 d4y a7Q d4d => ?_
 refine a7 (a4W _ _ _ _ _) ?_
 refine b8 (ldA Tryd.isAgg24 Tryd.sizeOf24 rfl ((a7Q.bring 2).at1 (o := 0) (vs := [(vi 6), (vi 0), (eS), (vs s_2)]) (nb rfl) rfl)) ?_
 obtain ⟨b1S, b5B, e8C, g3e, d3Y⟩ := Inv.freezeC (a7Q.bring 3) h_5 (by decide)
 replace h := h s_2 b1S e8C g3e d3Y
 refine X3 (e := 24) (c := b6) (xs := [(d8.mk 6 0 ⟨#[]⟩ s_2)]) b5B (b4h _ _ _ _ _ _) rfl rfl a1m a1o (nb rfl) fun b6o g6X D4 d3T a5I e8u => ?_
 refine a7 (a4W _ _ _ _ _) ?_
 obtain ⟨c4A, g3f, g3g, f5G, g3h⟩ := Inv.freezeC (a5I.bring 1) d4y (by decide)
 replace h := h b6n c4A g3g f5G g3h
 obtain ⟨b1t, g3i, g3j, g3k, d3j⟩ := Inv.freezeC g3f d3T (by decide)
 replace h := h b6o b1t g3j g3k d3j
 refine X3 (e := 63) (c := f2) (xs := [(m6.mk 1 ⟨#[120]⟩ b6n (Sl.mk none 0 0) (Sl.mk none 0 0) (Sl.mk none 0 0)), (m6.mk 1 ⟨#[120]⟩ b6o (Sl.mk none 0 0) (Sl.mk none 0 0) (Sl.mk none 0 0))]) g3i (d8v _ _ _ _ _ _ _ _ _ _ _ _ _ _ _ _ _ _ _ _ _ _ _ _ _ _ _ _) rfl rfl b2i b2j (nb rfl) fun a8m g2n b1y d3N c7w g2o => ?_
 refine a7 (b2k _ _ _ _ _ _) ?_
 refine A0 c7w Tryd.zeroValue44 (cs := [(nS), (nS)]) rfl fun g3l d3P g3m g6Y => ?_
 refine m5 g3m Tryd.sizeOf44 (vs := [(vs a0U), (vs a8m)]) (cs' := [(vs a0U), (vs a8m)]) rfl rfl (nb rfl) rfl rfl fun M4 f5H g6Z => ?_
 refine b8 (ldA Tryd.isAgg44 Tryd.sizeOf44 rfl (f5H.at1 (o := 0) (vs := [(vs a0U), (vs a8m)]) (nb rfl) rfl)) ?_
 obtain ⟨c4B, b3l, g3n, g3o, g3p⟩ := Inv.freezeC (f5H.bring 2) c4D (by decide)
 replace h := h a0U c4B g3n g3o g3p
 obtain ⟨a1F, d6w, g3q, g3r, g3s⟩ := Inv.freezeC (b3l.bring 1) d3N (by decide)
 replace h := h a8m a1F g3q g3r g3s
 refine b9 (cap := []) (fun args w => Tryd.call18 args w) ?_
 refine m2 (Fi := []) (Fr := [bx g3l 44 [(vs a0U), (vs a8m)], bx g_9 24 [(vi 6), (vi 0), (eS), (vs s_2)]]) d6w (h) (fun g7a a9M g7b N0 g3t f5I g7c g3u => ?_) (fun _ _ _ _ _ q => q.elim)
 obtain ⟨a1e, b8d, rfl, rfl, h⟩ := g3u
 refine a7 (j7 _ _ _ rfl) ?_
 refine a7 (j7 _ _ (vi b8d) rfl) ?_
 refine A0 g3t Tryd.zeroValue49 (cs := [(vi 0), (vi 0), (vi 0), (nS), (nS), (nS)]) rfl fun g7d M5 d6x g3v => ?_
 refine m5 d6x Tryd.sizeOf49 (vs := (o9 a1e)) (cs' := (o9 a1e)) rfl rfl (nb rfl) rfl rfl fun b3G a8F g7e => ?_
 refine a7 (i5 _ _ _ _ _ _) ?_
 refine a7 (Pu.g fun hb => by have f8 := hb; exact b0K) ?_
 refine b8 (Ld.g fun hb => by have f8 := hb; simp only [m9 f8]; exact (ld1 Tryd.isAgg3 (a8F.at1 (o := 0) (vs := [(vi a1e.X5)]) (nb rfl) rfl))) ?_
 refine a7 (Pu.g fun hb => by have f8 := hb; simp only [m9 f8]; exact (i5 _ _ _ _ _ _)) ?_
 refine a7 (L8 _ _) ?_
 refine a7 (Pu.g fun hb => by have f8 := hb; exact b6J) ?_
 refine b8 (Ld.g fun hb => by have f8 := hb; simp only [m9 f8]; exact (ld1 Tryd.isAgg3 (a8F.at1 (o := 2) (vs := [(vi a1e.a3Y)]) (nb rfl) rfl))) ?_
 refine a7 (Pu.g fun hb => by have f8 := hb; simp only [m9 f8]; exact (i5 _ _ _ _ _ _)) ?_
 refine a7 (L8 _ _) ?_
 refine a7 (Pu.g fun hb => by have f8 := hb; exact a2k) ?_
 refine b8 (Ld.g fun hb => by have f8 := hb; simp only [m9 f8]; exact (ld1 Tryd.isAgg45 (a8F.at1 (o := 4) (vs := [(vs a1e.S9)]) (nb rfl) rfl))) ?_
 refine a7 (Pu.g fun hb => by have f8 := hb; simp only [m9 f8]; exact (a6m _ _ _)) ?_
 refine a7 (Pu.g fun hb => by have f8 := hb; simp only [m9 f8]; exact (i5 _ _ _ _ _ _)) ?_
 refine a7 (L8 _ _) ?_
 refine a7 (Pu.g fun hb => by have f8 := hb; exact a2k) ?_
 refine b8 (Ld.g fun hb => by have f8 := hb; simp only [m9 f8]; exact (ld1 Tryd.isAgg45 (a8F.at1 (o := 4) (vs := [(vs a1e.S9)]) (nb rfl) rfl))) ?_
 obtain ⟨c4C, b4L, h⟩ := h
 obtain ⟨g7f, g7g, b4L⟩ := c0D b4L
 refine a7 (Pu.g fun hb => by have f8 := hb; simp only [m9 f8]; exact (P6 (b4L hb).2.2.1 _ _ _ _ (b4L hb).1 (b4L hb).2.1)) ?_
 refine b8 (Ld.g fun hb => by have f8 := hb; simp only [m9 f8]; exact (ld1 (v := (vi c4C)) Tryd.isAgg2 (a8F.atH (b4L hb).2.2.2))) ?_
 refine a7 (Pu.g fun hb => by have f8 := hb; simp only [m9 f8]; exact (i5 _ _ _ _ _ _)) ?_
 refine a7 (L8 _ _) ?_
 exact hR (((((decide (b8d = 0)) && (decide (a1e.X5 = 2))) && (decide (a1e.a3Y = 2))) && (decide ((a1e.S9.n : Int) = 1))) && (decide (c4C = 3))) a9M _ a8F.drop.drop.drop h
theorem a7g {H : Hp} {K : Bool → Hp → Prop} (h : T4 H K) : a0A H K := by
 intro w I
 refine f2F ?_
 refine a6J I (fun r0 H' w' I' hk => ⟨H', _, I', r0, rfl, rfl, hk⟩) h
def S5 (x0 : Int) (H : Hp) (K : d8 → Hp → Prop) : Prop :=
 (x0 < 0 →
 ∀ (s_7 : Sl) (Y0 : Hp), Hle H Y0 → SlH Y0 4 b6 s_7 [(d8.mk 1 (IntKind.wrap .i64 (0 - x0)) ⟨#[]⟩ (Sl.mk none 0 0))] → s_7.n ≤ s_7.c →
 K (d8.mk 5 0 ⟨#[]⟩ s_7) Y0) ∧
 (¬ (x0 < 0) →
 K (d8.mk 1 x0 ⟨#[]⟩ (Sl.mk none 0 0)) H)
theorem a6w (x0 : Int) {K : d8 → Hp → Prop} (I : Inv w0 ps0 H0 H [] w) (hR : ∀ (r0 : d8) (H' : Hp) (w' : World) (_ : Inv w0 ps0 H0 H' [] w') (_ : K r0 H'), R (Value.agg (b6 r0).toArray) w') (h : S5 x0 H K) : F23 (vi x0) w R E := by
 unfold S5 at h
 unfold F23
 refine A0 I Tryd.zeroValue24 (cs := [(vi 0), (vi 0), (eS), (nS)]) rfl fun g_2 w_3 I_4 k_5 => ?_
 refine a7 (B8 _ _ _ _ _ _) ?_
 refine h9 (fun b5K => ?_) (fun b5K => ?_)
 ·replace h := h.1 b5K
  refine a7 (c1f _ _) ?_
  refine a7 (a4g _ _) ?_
  refine X3 (e := 24) (c := b6) (xs := [(d8.mk 1 (IntKind.wrap .i64 (0 - x0)) ⟨#[]⟩ (Sl.mk none 0 0))]) I_4 (b4h _ _ _ _ _ _) rfl rfl a1m a1o (nb rfl) fun s_7 F_8 w_9 b6c a3i b5F => ?_
  refine a7 (a6A _ _ _ _) ?_
  refine m5 (a3i.bring 1) Tryd.sizeOf24 (vs := [(vi 5), (vi 0), (eS), (vs s_7)]) (cs' := [(vi 5), (vi 0), (eS), (vs s_7)]) rfl rfl (nb rfl) rfl rfl fun a0j O7 a1E => ?_
  refine a3p Tryd.isAgg24 Tryd.sizeOf24 rfl (O7.at1 (o := 0) (vs := [(vi 5), (vi 0), (eS), (vs s_7)]) (nb rfl) rfl) ?_
  obtain ⟨Y0, b9i, g3w, c4E, c4D⟩ := Inv.freezeC (O7.bring 1) b6c (by decide)
  replace h := h s_7 Y0 g3w c4E c4D
  exact hR (d8.mk 5 0 ⟨#[]⟩ s_7) Y0 _ b9i.drop h
 ·replace h := h.2 b5K
  refine a7 (a4g _ _) ?_
  refine m5 I_4 Tryd.sizeOf24 (vs := [(vi 1), (vi x0), (eS), (nS)]) (cs' := [(vi 1), (vi x0), (eS), (nS)]) rfl rfl (nb rfl) rfl rfl fun a1D b9e g1u => ?_
  refine a3p Tryd.isAgg24 Tryd.sizeOf24 rfl (b9e.at1 (o := 0) (vs := [(vi 1), (vi x0), (eS), (nS)]) (nb rfl) rfl) ?_
  exact hR (d8.mk 1 x0 ⟨#[]⟩ (Sl.mk none 0 0)) H _ b9e.drop h
theorem a6K (x0 : Int) {H : Hp} {K : d8 → Hp → Prop} (h : S5 x0 H K) : S3 x0 H K := by
 intro w I
 refine f3i ?_
 refine a6w x0 I (fun r0 H' w' I' hk => ⟨H', _, I', r0, rfl, rfl, hk⟩) h
def W6 (x0 : Int) (x1 : d8) (x2 : d8) (H : Hp) (K : d8 → Hp → Prop) : Prop :=
 ∀ (a0U : Sl) (a6I : Hp), Hle H a6I → SlH a6I 4 b6 a0U [x1, x2] → a0U.n ≤ a0U.c →
 K (d8.mk x0 0 ⟨#[]⟩ a0U) a6I
theorem a8G (x0 : Int) (x1 : d8) (x2 : d8) {K : d8 → Hp → Prop} (I : Inv w0 ps0 H0 H [] w) (hR : ∀ (r0 : d8) (H' : Hp) (w' : World) (_ : Inv w0 ps0 H0 H' [] w') (_ : K r0 H'), R (Value.agg (b6 r0).toArray) w') (h : W6 x0 x1 x2 H K) : F25 (vi x0) (Value.agg (b6 x1).toArray) (Value.agg (b6 x2).toArray) w R E := by
 unfold W6 at h
 unfold F25
 refine M1 I (cs := (b6 x1)) rfl fun g_2 w_3 I_4 k_5 => ?_
 refine M1 I_4 (cs := (b6 x2)) rfl fun g_7 w_8 I_9 c7e => ?_
 refine A0 I_9 Tryd.zeroValue24 (cs := [(vi 0), (vi 0), (eS), (nS)]) rfl fun g7h a0j O7 a1E => ?_
 refine b8 (ldA Tryd.isAgg24 Tryd.sizeOf24 rfl ((O7.bring 2).at1 (o := 0) (vs := (b6 x1)) (nb rfl) rfl)) ?_
 refine b8 (ldA Tryd.isAgg24 Tryd.sizeOf24 rfl ((O7.bring 1).at1 (o := 0) (vs := (b6 x2)) (nb rfl) rfl)) ?_
 refine X3 (e := 24) (c := b6) (xs := [x1, x2]) O7 (c5y _ _ _ _ _ _ _ _ _ _ _ _) rfl rfl a1m a1o (nb rfl) fun a0U g3d a2T c4D a7R c2A => ?_
 refine a7 (a6A _ _ _ _) ?_
 refine m5 (a7R.bring 1) Tryd.sizeOf24 (vs := [(vi x0), (vi 0), (eS), (vs a0U)]) (cs' := [(vi x0), (vi 0), (eS), (vs a0U)]) rfl rfl (nb rfl) rfl rfl fun a3d b1I e8D => ?_
 refine a3p Tryd.isAgg24 Tryd.sizeOf24 rfl (b1I.at1 (o := 0) (vs := [(vi x0), (vi 0), (eS), (vs a0U)]) (nb rfl) rfl) ?_
 obtain ⟨a6I, b5Q, c2N, a5J, c2J⟩ := Inv.freezeC (b1I.bring 1) c4D (by decide)
 replace h := h a0U a6I c2N a5J c2J
 exact hR (d8.mk x0 0 ⟨#[]⟩ a0U) a6I _ b5Q.drop.drop.drop h
theorem a8Y (x0 : Int) (x1 : d8) (x2 : d8) {H : Hp} {K : d8 → Hp → Prop} (h : W6 x0 x1 x2 H K) : a1g x0 x1 x2 H K := by
 intro w I
 refine f3m ?_
 refine a8G x0 x1 x2 I (fun r0 H' w' I' hk => ⟨H', _, I', r0, rfl, rfl, hk⟩) h
def V2 (x0 : ByteArray) (x1 : d8) (H : Hp) (K : m6 → Hp → Prop) : Prop :=
 ∀ (a9N : Sl) (b9N : Hp), Hle H b9N → SlH b9N 4 b6 a9N [x1] → a9N.n ≤ a9N.c →
 K (m6.mk 1 x0 a9N (Sl.mk none 0 0) (Sl.mk none 0 0) (Sl.mk none 0 0)) b9N
theorem a7h (x0 : ByteArray) (x1 : d8) {K : m6 → Hp → Prop} (I : Inv w0 ps0 H0 H [] w) (hR : ∀ (r0 : m6) (H' : Hp) (w' : World) (_ : Inv w0 ps0 H0 H' [] w') (_ : K r0 H'), R (Value.agg (f2 r0).toArray) w') (h : V2 x0 x1 H K) : F24 (Value.string x0) (Value.agg (b6 x1).toArray) w R E := by
 unfold V2 at h
 unfold F24
 refine M1 I (cs := (b6 x1)) rfl fun g_2 w_3 I_4 k_5 => ?_
 refine A0 I_4 Tryd.zeroValue63 (cs := [(vi 0), (eS), (nS), (nS), (nS), (nS)]) rfl fun g_7 w_8 I_9 c7e => ?_
 refine b8 (ldA Tryd.isAgg24 Tryd.sizeOf24 rfl ((I_9.bring 1).at1 (o := 0) (vs := (b6 x1)) (nb rfl) rfl)) ?_
 refine X3 (e := 24) (c := b6) (xs := [x1]) I_9 (b4h _ _ _ _ _ _) rfl rfl a1m a1o (nb rfl) fun a9N d2X m8 g3x g3y g7i => ?_
 refine a7 (a4W _ _ _ _ _) ?_
 refine m5 (g3y.bring 1) Tryd.sizeOf63 (vs := [(vi 1), (Value.string x0), (vs a9N), (nS), (nS), (nS)]) (cs' := [(vi 1), (Value.string x0), (vs a9N), (nS), (nS), (nS)]) rfl rfl (nb rfl) rfl rfl fun p6 a5u b5J => ?_
 refine a3p Tryd.isAgg63 Tryd.sizeOf63 rfl (a5u.at1 (o := 0) (vs := [(vi 1), (Value.string x0), (vs a9N), (nS), (nS), (nS)]) (nb rfl) rfl) ?_
 obtain ⟨b9N, b9e, b9j, c3d, b5W⟩ := Inv.freezeC (a5u.bring 1) g3x (by decide)
 replace h := h a9N b9N b9j c3d b5W
 exact hR (m6.mk 1 x0 a9N (Sl.mk none 0 0) (Sl.mk none 0 0) (Sl.mk none 0 0)) b9N _ b9e.drop.drop h
theorem a8H (x0 : ByteArray) (x1 : d8) {H : Hp} {K : m6 → Hp → Prop} (h : V2 x0 x1 H K) : a0R x0 x1 H K := by
 intro w I
 refine f3k ?_
 refine a7h x0 x1 I (fun r0 H' w' I' hk => ⟨H', _, I', r0, rfl, rfl, hk⟩) h
def t1 (b9p : Int) (d4w : Int) (b3i : Int) (a3W : Int) (a4G : Int) (H : Hp) (K : Bool → Hp → Prop) : Prop :=
 S3 d4w H (fun (b4y : d8) (a6I : Hp) =>
 S3 b3i a6I (fun (b4z : d8) (a6H : Hp) =>
 a1g b9p b4y b4z a6H (fun (d7N : d8) (f5J : Hp) =>
 a0R ⟨#[120]⟩ d7N f5J (fun (c8q : m6) (f5K : Hp) =>
 ∀ (a9O : Sl) (a9M : Hp), Hle f5K a9M → SlH a9M 2 l9 a9O [(i7.mk ⟨#[120]⟩ 0)] → a9O.n ≤ a9O.c →
 ∀ (a9P : Sl) (c4F : Hp), Hle a9M c4F → SlH c4F 6 f2 a9P [c8q] → a9P.n ≤ a9P.c →
 a4w (A5.mk a9O a9P) (Sl.mk none 0 0) 10 c4F (fun (R2 : M9) (c0P : Int) (b1T : Hp) =>
 (((((!decide (c0P = 0)) || (!decide (R2.a3Y = 1))) || (!decide ((R2.S9.n : Int) = 1))) || (!decide (R2.a9U = a4G))) = true →
 K false b1T) ∧
 (((((!decide (c0P = 0)) || (!decide (R2.a3Y = 1))) || (!decide ((R2.S9.n : Int) = 1))) || (!decide (R2.a9U = a4G))) = false →
 (¬ (a4G = 0) →
 ∃ b8e : Int, ((decide (R2.X5 = 3)) = true → (0 : Int) ≤ 0 ∧ (0 : Int) < R2.S9.n ∧ EltH b1T R2.S9 0 1 [(vi b8e)]) ∧
 K ((decide (R2.X5 = 3)) && (decide (b8e = 0))) b1T) ∧
 (a4G = 0 →
 ∃ b8f : Int, ((decide (R2.X5 = 2)) = true → (0 : Int) ≤ 0 ∧ (0 : Int) < R2.S9.n ∧ EltH b1T R2.S9 0 1 [(vi b8f)]) ∧
 K ((decide (R2.X5 = 2)) && (decide (b8f = a3W))) b1T)))))))
def R3 (x0 : Int) (x1 : Int) (x2 : Int) (H : Hp) (K : Bool → Hp → Prop) : Prop :=
 a0A H (fun (C0 : Bool) (H_1 : Hp) =>
 ((!C0) = true →
 K false H_1) ∧
 ((!C0) = false →
 (((decide (x1 = (-9223372036854775808))) || (decide (x2 = (-9223372036854775808)))) = true →
 K true H_1) ∧
 (((decide (x1 = (-9223372036854775808))) || (decide (x2 = (-9223372036854775808)))) = false →
 (x0 = 6 →
 a4s x1 x2 H_1 (fun (A6 : Int) (c0Q : Int) (a1k : Hp) =>
 t1 x0 x1 x2 A6 c0Q a1k K)) ∧
 (¬ (x0 = 6) →
 (x0 = 7 →
 a2w x1 x2 H_1 (fun (b8g : Int) (b8h : Int) (b1U : Hp) =>
 t1 x0 x1 x2 b8g b8h b1U K)) ∧
 (¬ (x0 = 7) →
 (x0 = 8 →
 a4t x1 x2 H_1 (fun (b8i : Int) (b8j : Int) (c8r : Hp) =>
 t1 x0 x1 x2 b8i b8j c8r K)) ∧
 (¬ (x0 = 8) →
 (x0 = 9 →
 a4u x1 x2 H_1 (fun (b8k : Int) (b8l : Int) (c8s : Hp) =>
 t1 x0 x1 x2 b8k b8l c8s K)) ∧
 (¬ (x0 = 9) →
 (x0 = 10 →
 a4v x1 x2 H_1 (fun (b8m : Int) (b8n : Int) (c8t : Hp) =>
 t1 x0 x1 x2 b8m b8n c8t K)) ∧
 (¬ (x0 = 10) →
 K true H_1))))))))
theorem a5V (x0 : Int) (x1 : Int) (x2 : Int) {K : Bool → Hp → Prop} (I : Inv w0 ps0 H0 H [] w) (hR : ∀ (r0 : Bool) (H' : Hp) (w' : World) (_ : Inv w0 ps0 H0 H' [] w') (_ : K r0 H'), R (vB r0) w') (h : R3 x0 x1 x2 H K) : F6 (vi x0) (vi x1) (vi x2) w R E := by
 unfold R3 at h
 unfold F6
 refine b9 (cap := []) (fun args w => Tryd.call17 args w) ?_
 refine m2 (Fi := []) (Fr := []) I (h) (fun v_5 H_1 F_6 w_2 I_3 l_8 k_4 q_7 => ?_) (fun _ _ _ _ _ q => q.elim)
 obtain ⟨C0, rfl, rfl, h⟩ := q_7
 refine a7 (a0s _) ?_
 refine o4 (fun c8u => ?_) (fun c8u => ?_)
 ·replace h := h.1 c8u
  exact hR false H_1 _ I_3 h
 ·replace h := h.2 c8u
  refine a7 (i5 _ _ _ _ _ _) ?_
  simp only [L6]
  refine a7 (Pu.g fun hb => by have f8 := hb; simp only [m9 f8]; exact (i5 _ _ _ _ _ _)) ?_
  refine a7 (a0g _ _) ?_
  refine o4 (fun c8v => ?_) (fun c8v => ?_)
  ·replace h := h.1 c8v
   exact hR true H_1 _ I_3 h
  ·replace h := h.2 c8v
   have hj1 : ∀ (a3W : Int) (a4G : Int) (H : Hp) (w : World) (_ : Inv w0 ps0 H0 H [] w) (_ : t1 x0 x1 x2 a3W a4G H K), c8j (vi x0) (vi x1) (vi x2) (vi a3W) (vi a4G) w R E := by
    intro a3W a4G H w I h
    unfold c8j
    intro _
    unfold t1 at h
    refine a7 (b5g _) ?_
    refine X3 (e := 58) (c := l9) (xs := [(i7.mk ⟨#[120]⟩ 0)]) I (c5x _ _) rfl rfl b2g b2h (nb rfl) fun a9O b1l q9 c3c b1I e8D => ?_
    refine b9 (cap := []) (fun args w => Tryd.call23 args w) ?_
    refine m2 (Fi := []) (Fr := [b1l]) b1I (h) (fun g2B a6I g2C a2U a7Q b9r d4d d4e => ?_) (fun _ _ _ _ _ q => q.elim)
    obtain ⟨b4y, rfl, rfl, h⟩ := d4e
    refine b9 (cap := []) (fun args w => Tryd.call23 args w) ?_
    refine m2 (Fi := []) (Fr := [b1l]) a7Q (h) (fun g2D a6H g2E E5 d4f g2F g2G d4g => ?_) (fun _ _ _ _ _ q => q.elim)
    obtain ⟨b4z, rfl, rfl, h⟩ := d4g
    refine b9 (cap := []) (fun args w => Tryd.call25 args w) ?_
    refine m2 (Fi := []) (Fr := [b1l]) d4f (h) (fun g7j f5J g7k a7I g3z a3U g7l g3A => ?_) (fun _ _ _ _ _ q => q.elim)
    obtain ⟨d7N, rfl, rfl, h⟩ := g3A
    refine b9 (cap := []) (fun args w => Tryd.call24 args w) ?_
    refine m2 (Fi := []) (Fr := [b1l]) g3z (h) (fun g7m f5K g7n L0 g3B g7o g7p g3C => ?_) (fun _ _ _ _ _ q => q.elim)
    obtain ⟨c8q, rfl, rfl, h⟩ := g3C
    refine X3 (e := 63) (c := f2) (xs := [c8q]) g3B (d8u _ _ _ _ _ _ _ _ _ _ _ _ _ _) rfl rfl b2i b2j (nb rfl) fun a9P g7q b3d d6y d3R g2s => ?_
    refine a7 (b2k _ _ _ _ _ _) ?_
    refine A0 d3R Tryd.zeroValue44 (cs := [(nS), (nS)]) rfl fun g3D c8m g3E g7r => ?_
    refine m5 g3E Tryd.sizeOf44 (vs := [(vs a9O), (vs a9P)]) (cs' := [(vs a9O), (vs a9P)]) rfl rfl (nb rfl) rfl rfl fun O5 c8w g3F => ?_
    refine b8 (ldA Tryd.isAgg44 Tryd.sizeOf44 rfl (c8w.at1 (o := 0) (vs := [(vs a9O), (vs a9P)]) (nb rfl) rfl)) ?_
    obtain ⟨a9M, g3G, b8X, g3H, g3I⟩ := Inv.freezeC (c8w.bring 2) c3c (by decide)
    replace h := h a9O a9M b8X g3H g3I
    obtain ⟨c4F, g3J, f5I, g3K, g3L⟩ := Inv.freezeC (g3G.bring 1) d6y (by decide)
    replace h := h a9P c4F f5I g3K g3L
    refine b9 (cap := []) (fun args w => Tryd.call18 args w) ?_
    refine m2 (Fi := []) (Fr := [bx g3D 44 [(vs a9O), (vs a9P)]]) g3J (h) (fun g7s b1T g7t M5 d6x c8x g3v g3M => ?_) (fun _ _ _ _ _ q => q.elim)
    obtain ⟨R2, c0P, rfl, rfl, h⟩ := g3M
    refine a7 (j7 _ _ _ rfl) ?_
    refine a7 (j7 _ _ (vi c0P) rfl) ?_
    refine A0 d6x Tryd.zeroValue49 (cs := [(vi 0), (vi 0), (vi 0), (nS), (nS), (nS)]) rfl fun g7u a0k g3N g4x => ?_
    refine m5 g3N Tryd.sizeOf49 (vs := (o9 R2)) (cs' := (o9 R2)) rfl rfl (nb rfl) rfl rfl fun b7Z a4m g4y => ?_
    refine a7 (W7 _ _ _ _ _ _) ?_
    refine a7 (Pu.g fun hb => by have f8 := hb; exact b6J) ?_
    refine b8 (Ld.g fun hb => by have f8 := hb; simp only [m9 f8]; exact (ld1 Tryd.isAgg3 (a4m.at1 (o := 2) (vs := [(vi R2.a3Y)]) (nb rfl) rfl))) ?_
    refine a7 (Pu.g fun hb => by have f8 := hb; simp only [m9 f8]; exact (W7 _ _ _ _ _ _)) ?_
    refine a7 (a0g _ _) ?_
    refine a7 (Pu.g fun hb => by have f8 := hb; exact a2k) ?_
    refine b8 (Ld.g fun hb => by have f8 := hb; simp only [m9 f8]; exact (ld1 Tryd.isAgg45 (a4m.at1 (o := 4) (vs := [(vs R2.S9)]) (nb rfl) rfl))) ?_
    refine a7 (Pu.g fun hb => by have f8 := hb; simp only [m9 f8]; exact (a6m _ _ _)) ?_
    refine a7 (Pu.g fun hb => by have f8 := hb; simp only [m9 f8]; exact (W7 _ _ _ _ _ _)) ?_
    refine a7 (a0g _ _) ?_
    refine a7 (Pu.g fun hb => by have f8 := hb; exact c6x) ?_
    refine b8 (Ld.g fun hb => by have f8 := hb; simp only [m9 f8]; exact (ld1 Tryd.isAgg3 (a4m.at1 (o := 1) (vs := [(vi R2.a9U)]) (nb rfl) rfl))) ?_
    simp only [L6]
    refine a7 (Pu.g fun hb => by have f8 := hb; simp only [m9 f8]; exact (W7 _ _ _ _ _ _)) ?_
    refine a7 (a0g _ _) ?_
    refine o4 (fun c8y => ?_) (fun c8y => ?_)
    ·replace h := h.1 c8y
     exact hR false b1T _ a4m.drop.drop h
    ·replace h := h.2 c8y
     refine a7 (W7 _ _ _ _ _ _) ?_
     refine a4K (fun c8z => ?_) (fun c8z => ?_)
     ·replace h := h.1 c8z
      refine a7 b0K ?_
      refine b8 (ld1 Tryd.isAgg3 (a4m.at1 (o := 0) (vs := [(vi R2.X5)]) (nb rfl) rfl)) ?_
      refine a7 (i5 _ _ _ _ _ _) ?_
      refine a7 (Pu.g fun hb => by have f8 := hb; exact a2k) ?_
      refine b8 (Ld.g fun hb => by have f8 := hb; simp only [m9 f8]; exact (ld1 Tryd.isAgg45 (a4m.at1 (o := 4) (vs := [(vs R2.S9)]) (nb rfl) rfl))) ?_
      obtain ⟨b8e, a9i, h⟩ := h
      obtain ⟨g4z, g4A, a9i⟩ := c0D a9i
      refine a7 (Pu.g fun hb => by have f8 := hb; simp only [m9 f8]; exact (P6 (a9i hb).2.2.1 _ _ _ _ (a9i hb).1 (a9i hb).2.1)) ?_
      refine b8 (Ld.g fun hb => by have f8 := hb; simp only [m9 f8]; exact (ld1 (v := (vi b8e)) Tryd.isAgg2 (a4m.atH (a9i hb).2.2.2))) ?_
      refine a7 (Pu.g fun hb => by have f8 := hb; simp only [m9 f8]; exact (i5 _ _ _ _ _ _)) ?_
      refine a7 (L8 _ _) ?_
      exact hR ((decide (R2.X5 = 3)) && (decide (b8e = 0))) b1T _ a4m.drop.drop h
     ·replace h := h.2 c8z
      refine a7 b0K ?_
      refine b8 (ld1 Tryd.isAgg3 (a4m.at1 (o := 0) (vs := [(vi R2.X5)]) (nb rfl) rfl)) ?_
      refine a7 (i5 _ _ _ _ _ _) ?_
      refine a7 (Pu.g fun hb => by have f8 := hb; exact a2k) ?_
      refine b8 (Ld.g fun hb => by have f8 := hb; simp only [m9 f8]; exact (ld1 Tryd.isAgg45 (a4m.at1 (o := 4) (vs := [(vs R2.S9)]) (nb rfl) rfl))) ?_
      obtain ⟨b8f, b4M, h⟩ := h
      obtain ⟨g4B, g4C, b4M⟩ := c0D b4M
      refine a7 (Pu.g fun hb => by have f8 := hb; simp only [m9 f8]; exact (P6 (b4M hb).2.2.1 _ _ _ _ (b4M hb).1 (b4M hb).2.1)) ?_
      refine b8 (Ld.g fun hb => by have f8 := hb; simp only [m9 f8]; exact (ld1 (v := (vi b8f)) Tryd.isAgg2 (a4m.atH (b4M hb).2.2.2))) ?_
      simp only [L6]
      refine a7 (Pu.g fun hb => by have f8 := hb; simp only [m9 f8]; exact (i5 _ _ _ _ _ _)) ?_
      refine a7 (L8 _ _) ?_
      exact hR ((decide (R2.X5 = 2)) && (decide (b8f = a3W))) b1T _ a4m.drop.drop h
   refine z7 fun j1 hx1 => ?_
   refine a7 (i5 _ _ _ _ _ _) ?_
   refine h9 (fun c8A => ?_) (fun c8A => ?_)
   ·replace h := h.1 c8A
    refine b9 (cap := []) (fun args w => Tryd.call26 args w) ?_
    refine m2 (Fi := []) (Fr := []) I_3 (h) (fun c2w a1k e8m a0i M6 b5A b3a c2y => ?_) (fun _ _ _ _ _ q => q.elim)
    obtain ⟨A6, c0Q, rfl, rfl, h⟩ := c2y
    refine a7 (j7 _ _ (vi A6) rfl) ?_
    refine a7 (j7 _ _ (vi c0Q) rfl) ?_
    exact hx1 _ _ (hj1 A6 c0Q a1k _ M6 h)
   ·replace h := h.2 c8A
    refine a7 (i5 _ _ _ _ _ _) ?_
    refine h9 (fun c8B => ?_) (fun c8B => ?_)
    ·replace h := h.1 c8B
     refine b9 (cap := []) (fun args w => Tryd.call27 args w) ?_
     refine m2 (Fi := []) (Fr := []) I_3 (h) (fun f9p b1U f9q f9r c8C f9s f9t c8D => ?_) (fun _ _ _ _ _ q => q.elim)
     obtain ⟨b8g, b8h, rfl, rfl, h⟩ := c8D
     refine a7 (j7 _ _ (vi b8g) rfl) ?_
     refine a7 (j7 _ _ (vi b8h) rfl) ?_
     exact hx1 _ _ (hj1 b8g b8h b1U _ c8C h)
    ·replace h := h.2 c8B
     refine a7 (i5 _ _ _ _ _ _) ?_
     refine h9 (fun c8E => ?_) (fun c8E => ?_)
     ·replace h := h.1 c8E
      refine b9 (cap := []) (fun args w => Tryd.call28 args w) ?_
      refine m2 (Fi := []) (Fr := []) I_3 (h) (fun g4D c8r g4E a4k f9u c0R g4F f9v => ?_) (fun _ _ _ _ _ q => q.elim)
      obtain ⟨b8i, b8j, rfl, rfl, h⟩ := f9v
      refine a7 (j7 _ _ (vi b8i) rfl) ?_
      refine a7 (j7 _ _ (vi b8j) rfl) ?_
      exact hx1 _ _ (hj1 b8i b8j c8r _ f9u h)
     ·replace h := h.2 c8E
      refine a7 (i5 _ _ _ _ _ _) ?_
      refine h9 (fun c8F => ?_) (fun c8F => ?_)
      ·replace h := h.1 c8F
       refine b9 (cap := []) (fun args w => Tryd.call29 args w) ?_
       refine m2 (Fi := []) (Fr := []) I_3 (h) (fun g4G c8s g4H c0O f9w g4I g4J f9x => ?_) (fun _ _ _ _ _ q => q.elim)
       obtain ⟨b8k, b8l, rfl, rfl, h⟩ := f9x
       refine a7 (j7 _ _ (vi b8k) rfl) ?_
       refine a7 (j7 _ _ (vi b8l) rfl) ?_
       exact hx1 _ _ (hj1 b8k b8l c8s _ f9w h)
      ·replace h := h.2 c8F
       refine a7 (i5 _ _ _ _ _ _) ?_
       refine h9 (fun c8G => ?_) (fun c8G => ?_)
       ·replace h := h.1 c8G
        refine b9 (cap := []) (fun args w => Tryd.call30 args w) ?_
        refine m2 (Fi := []) (Fr := []) I_3 (h) (fun g4K c8t g4L a6Z f9y g4M g4N f9z => ?_) (fun _ _ _ _ _ q => q.elim)
        obtain ⟨b8m, b8n, rfl, rfl, h⟩ := f9z
        refine a7 (j7 _ _ (vi b8m) rfl) ?_
        refine a7 (j7 _ _ (vi b8n) rfl) ?_
        exact hx1 _ _ (hj1 b8m b8n c8t _ f9y h)
       ·replace h := h.2 c8G
        exact hR true H_1 _ I_3 h
theorem a6x (x0 : Int) (x1 : Int) (x2 : Int) {H : Hp} {K : Bool → Hp → Prop} (h : R3 x0 x1 x2 H K) : R0 x0 x1 x2 H K := by
 intro w I
 refine f8O ?_
 refine a5V x0 x1 x2 I (fun r0 H' w' I' hk => ⟨H', _, I', r0, rfl, rfl, hk⟩) h
def a2f (x0 : d8) (H : Hp) (K : Int → Bool → Hp → Prop) : Prop :=
 (x0.d5 = 1 →
 K x0.G2 true H) ∧
 (¬ (x0.d5 = 1) →
 ∃ x_6 : d8, ((decide (x0.d5 = 5)) = true → (0 : Int) ≤ 0 ∧ (0 : Int) < x0.v8.n ∧ EltH H x0.v8 0 4 (b6 x_6)) ∧
 (((decide (x0.d5 = 5)) && (decide (x_6.d5 = 1))) = true →
 (0 : Int) ≤ 0 ∧ (0 : Int) < x0.v8.n ∧ ∃ b3x : d8, EltH H x0.v8 0 4 (b6 b3x) ∧
 K (IntKind.wrap .i64 (0 - b3x.G2)) true H) ∧
 (((decide (x0.d5 = 5)) && (decide (x_6.d5 = 1))) = false →
 K 0 false H))
theorem a9Q (x0 : d8) {K : Int → Bool → Hp → Prop} (I : Inv w0 ps0 H0 H [] w) (hR : ∀ (r0 : Int) (r1 : Bool) (H' : Hp) (w' : World) (_ : Inv w0 ps0 H0 H' [] w') (_ : K r0 r1 H'), R (Value.tuple #[(vi r0), (vB r1)]) w') (h : a2f x0 H K) : c8o (Value.agg (b6 x0).toArray) w R E := by
 unfold a2f at h
 unfold c8o
 refine M1 I (cs := (b6 x0)) rfl fun g_2 w_3 I_4 k_5 => ?_
 refine a7 U0 ?_
 refine b8 (ld1 Tryd.isAgg3 (I_4.at1 (o := 0) (vs := [(vi x0.d5)]) (nb rfl) rfl)) ?_
 refine a7 (i5 _ _ _ _ _ _) ?_
 refine h9 (fun a8d => ?_) (fun a8d => ?_)
 ·replace h := h.1 a8d
  refine a7 a6P ?_
  refine b8 (ld1 Tryd.isAgg2 (I_4.at1 (o := 1) (vs := [(vi x0.G2)]) (nb rfl) rfl)) ?_
  exact hR x0.G2 true H _ I_4.drop h
 ·replace h := h.2 a8d
  refine a7 U0 ?_
  refine b8 (ld1 Tryd.isAgg3 (I_4.at1 (o := 0) (vs := [(vi x0.d5)]) (nb rfl) rfl)) ?_
  refine a7 (i5 _ _ _ _ _ _) ?_
  refine a7 (Pu.g fun hb => by have f8 := hb; exact a3t) ?_
  refine b8 (Ld.g fun hb => by have f8 := hb; simp only [m9 f8]; exact (ld1 Tryd.isAgg22 (I_4.at1 (o := 3) (vs := [(vs x0.v8)]) (nb rfl) rfl))) ?_
  obtain ⟨x_6, b3N, h⟩ := h
  obtain ⟨g_7, o_8, b3N⟩ := c0D b3N
  refine a7 (Pu.g fun hb => by have f8 := hb; simp only [m9 f8]; exact (a0P (b3N hb).2.2.1 _ _ _ _ (b3N hb).1 (b3N hb).2.1)) ?_
  refine a7 (Pu.g fun hb => by have f8 := hb; simp only [m9 f8]; exact U0) ?_
  refine b8 (Ld.g fun hb => by have f8 := hb; simp only [m9 f8]; exact (ld1 (v := (vi x_6.d5)) Tryd.isAgg3 ((I_4.atH (b3N hb).2.2.2).sub (k := 0) (n := 1) (nb rfl)))) ?_
  refine a7 (Pu.g fun hb => by have f8 := hb; simp only [m9 f8]; exact (i5 _ _ _ _ _ _)) ?_
  refine a7 (L8 _ _) ?_
  refine o4 (fun a4z => ?_) (fun a4z => ?_)
  ·replace h := h.1 a4z
   refine a7 a3t ?_
   refine b8 (ld1 Tryd.isAgg22 (I_4.at1 (o := 3) (vs := [(vs x0.v8)]) (nb rfl) rfl)) ?_
   obtain ⟨g3O, g3P, b3x, c4E, h⟩ := h
   obtain ⟨g7v, g7w, d6z, c4E⟩ := c4E
   refine a7 (a0P d6z _ _ _ _ g3O g3P) ?_
   refine a7 a6P ?_
   refine b8 (ld1 (v := (vi b3x.G2)) Tryd.isAgg2 ((I_4.atH c4E).sub (k := 1) (n := 1) (nb rfl))) ?_
   refine a7 (c1f _ _) ?_
   exact hR (IntKind.wrap .i64 (0 - b3x.G2)) true H _ I_4.drop h
  ·replace h := h.2 a4z
   exact hR 0 false H _ I_4.drop h
theorem b0w (x0 : d8) {H : Hp} {K : Int → Bool → Hp → Prop} (h : a2f x0 H K) : a4N x0 H K := by
 intro w I
 refine e3p ?_
 refine a9Q x0 I (fun r0 r1 H' w' I' hk => ⟨H', _, I', r0, r1, rfl, rfl, hk⟩) h
end Go.Proofs.YtnhkdkcgdcgmdaaDoor
