/- Typed formulas of the program's functions that few laws need; printed by lift.py off the code. -/
import Derived.Test.YtnhkdkcgdcgmdaaDoorzSV1
import Derived.Test.YtnhkdkcgdcgmdaaDoorzSG1s
namespace Go.Proofs.YtnhkdkcgdcgmdaaDoor
open Go.RowKit
set_option maxRecDepth 100000
set_option maxHeartbeats 2000000
variable {w0 w : World} {ps0 : Nat → Prop} {H0 H : Hp} {R : RT} {E : Pan}
def U4 (H : Hp) (K : Bool → Hp → Prop) : Prop :=
 ∀ (s_2 : Sl) (b2k : Hp), Hle H b2k → SlH b2k 4 b8 s_2 [(i4.mk 2 0 ⟨#[120]⟩ (Sl.mk none 0 0)), (i4.mk 1 2 ⟨#[]⟩ (Sl.mk none 0 0))] → s_2.n ≤ s_2.c →
 ∀ (b6M : Sl) (b4d : Hp), Hle b2k b4d → SlH b4d 4 b8 b6M [(i4.mk 1 1 ⟨#[]⟩ (Sl.mk none 0 0))] → b6M.n ≤ b6M.c →
 ∀ (a4X : Sl) (b1I : Hp), Hle b4d b1I → SlH b1I 4 b8 a4X [(i4.mk 6 0 ⟨#[]⟩ s_2)] → a4X.n ≤ a4X.c →
 ∀ (a6T : Sl) (c4S : Hp), Hle b1I c4S → SlH c4S 2 m3 a6T [(j7.mk ⟨#[120]⟩ 0)] → a6T.n ≤ a6T.c →
 ∀ (a8D : Sl) (Z9 : Hp), Hle c4S Z9 → SlH Z9 6 f8 a8D [(m9.mk 1 ⟨#[120]⟩ b6M (Sl.mk none 0 0) (Sl.mk none 0 0) (Sl.mk none 0 0)), (m9.mk 1 ⟨#[120]⟩ a4X (Sl.mk none 0 0) (Sl.mk none 0 0) (Sl.mk none 0 0))] → a8D.n ≤ a8D.c →
 a4I (q8.mk a6T a8D) (Sl.mk none 0 0) 9 Z9 (fun (a1t : K6) (b8C : Int) (c9b : Hp) =>
 ∃ c4T : Int, (((((decide (b8C = 0)) && (decide (a1t.P7 = 2))) && (decide (a1t.Y1 = 2))) && (decide ((a1t.V2.n : Int) = 1))) = true → (0 : Int) ≤ 0 ∧ (0 : Int) < a1t.V2.n ∧ EltH c9b a1t.V2 0 1 [(vi c4T)]) ∧
 K (((((decide (b8C = 0)) && (decide (a1t.P7 = 2))) && (decide (a1t.Y1 = 2))) && (decide ((a1t.V2.n : Int) = 1))) && (decide (c4T = 3))) c9b)
theorem a6V {K : Bool → Hp → Prop} (I : Inv w0 ps0 H0 H [] w) (hR : ∀ (r0 : Bool) (H' : Hp) (w' : World) (_ : Inv w0 ps0 H0 H' [] w') (_ : K r0 H'), R (vB r0) w') (h : U4 H K) : F17 w R E := by
 unfold U4 at h
 unfold F17
 refine a7 (c0T _ _) ?_
 refine a7 (a4w _ _) ?_
 refine W7 (e := 24) (c := b8) (xs := [(i4.mk 2 0 ⟨#[120]⟩ (Sl.mk none 0 0)), (i4.mk 1 2 ⟨#[]⟩ (Sl.mk none 0 0))]) I (c5T _ _ _ _ _ _ _ _ _ _ _ _) rfl rfl a0u a0v (nb rfl) fun s_2 F_3 w_4 h_5 I_6 k_7 => ?_
 refine a7 (b2A _ _ _ _) ?_
 refine A8 I_6 Tryd.zeroValue24 (cs := [(vi 0), (vi 0), (eS), (nS)]) rfl fun g_9 m7 a3x b5Z => ?_
 refine o0 a3x Tryd.sizeOf24 (vs := [(vi 6), (vi 0), (eS), (vs s_2)]) (cs' := [(vi 6), (vi 0), (eS), (vs s_2)]) rfl rfl (nb rfl) rfl rfl fun a0w T2 a2q => ?_
 refine a7 (b5A _) ?_
 refine W7 (e := 58) (c := m3) (xs := [(j7.mk ⟨#[120]⟩ 0)]) T2 (d9N _ _) rfl rfl b2v b2w (nb rfl) fun a6T g8w a3s d7I b1s c7y => ?_
 refine a7 (a4w _ _) ?_
 refine W7 (e := 24) (c := b8) (xs := [(i4.mk 1 1 ⟨#[]⟩ (Sl.mk none 0 0))]) b1s (b0l _ _ _ _ _ _) rfl rfl a0u a0v (nb rfl) fun b6M g8x z6 d5n a8g d4U => ?_
 refine a7 (a3o _ _ _ _ _) ?_
 refine b6 (ldA Tryd.isAgg24 Tryd.sizeOf24 rfl ((a8g.bring 2).at1 (o := 0) (vs := [(vi 6), (vi 0), (eS), (vs s_2)]) (nb rfl) rfl)) ?_
 obtain ⟨b2k, b5V, e9Y, g4D, d4P⟩ := Inv.freezeC (a8g.bring 3) h_5 (by decide)
 replace h := h s_2 b2k e9Y g4D d4P
 refine W7 (e := 24) (c := b8) (xs := [(i4.mk 6 0 ⟨#[]⟩ s_2)]) b5V (b0l _ _ _ _ _ _) rfl rfl a0u a0v (nb rfl) fun a4X d7J C7 c3q a4K d3S => ?_
 refine a7 (a3o _ _ _ _ _) ?_
 obtain ⟨b4d, g4E, g4F, f7x, g4G⟩ := Inv.freezeC (a4K.bring 1) d5n (by decide)
 replace h := h b6M b4d g4F f7x g4G
 obtain ⟨b1I, g4H, f7y, g4I, d4b⟩ := Inv.freezeC g4E c3q (by decide)
 replace h := h a4X b1I f7y g4I d4b
 refine W7 (e := 63) (c := f8) (xs := [(m9.mk 1 ⟨#[120]⟩ b6M (Sl.mk none 0 0) (Sl.mk none 0 0) (Sl.mk none 0 0)), (m9.mk 1 ⟨#[120]⟩ a4X (Sl.mk none 0 0) (Sl.mk none 0 0) (Sl.mk none 0 0))]) g4H (c5U _ _ _ _ _ _ _ _ _ _ _ _ _ _ _ _ _ _ _ _ _ _ _ _ _ _ _ _) rfl rfl b2x b2y (nb rfl) fun a8D g3Q b1M d4G c7W g3R => ?_
 refine a7 (b2z _ _ _ _ _ _) ?_
 refine A8 c7W Tryd.zeroValue44 (cs := [(nS), (nS)]) rfl fun g4J d4I g4K g8y => ?_
 refine o0 g4K Tryd.sizeOf44 (vs := [(vs a6T), (vs a8D)]) (cs' := [(vs a6T), (vs a8D)]) rfl rfl (nb rfl) rfl rfl fun M5 c9c g4L => ?_
 refine b6 (ldA Tryd.isAgg44 Tryd.sizeOf44 rfl (c9c.at1 (o := 0) (vs := [(vs a6T), (vs a8D)]) (nb rfl) rfl)) ?_
 obtain ⟨c4S, b3z, g4M, g4N, g4O⟩ := Inv.freezeC (c9c.bring 2) d7I (by decide)
 replace h := h a6T c4S g4M g4N g4O
 obtain ⟨Z9, c4U, d7K, d7L, d7M⟩ := Inv.freezeC (b3z.bring 1) d4G (by decide)
 replace h := h a8D Z9 d7K d7L d7M
 refine d6 (cap := []) (fun args w => Tryd.call18 args w) ?_
 refine m6 (Fi := []) (Fr := [bx g4J 44 [(vs a6T), (vs a8D)], bx g_9 24 [(vi 6), (vi 0), (eS), (vs s_2)]]) c4U (h) (fun g8z c9b g8A N0 g4P g8B g8C g4Q => ?_) (fun _ _ _ _ _ q => q.elim)
 obtain ⟨a1t, b8C, rfl, rfl, h⟩ := g4Q
 refine a7 (m4 _ _ _ rfl) ?_
 refine a7 (m4 _ _ (vi b8C) rfl) ?_
 refine A8 g4P Tryd.zeroValue49 (cs := [(vi 0), (vi 0), (vi 0), (nS), (nS), (nS)]) rfl fun g8D N1 g4R g8E => ?_
 refine o0 g4R Tryd.sizeOf49 (vs := (p6 a1t)) (cs' := (p6 a1t)) rfl rfl (nb rfl) rfl rfl fun b3W a8Y g8F => ?_
 refine a7 (i6 _ _ _ _ _ _) ?_
 refine a7 (Pu.g fun hb => by have d8 := hb; exact a7c) ?_
 refine b6 (Ld.g fun hb => by have d8 := hb; simp only [m8 d8]; exact (ld1 Tryd.isAgg3 (a8Y.at1 (o := 0) (vs := [(vi a1t.P7)]) (nb rfl) rfl))) ?_
 refine a7 (Pu.g fun hb => by have d8 := hb; simp only [m8 d8]; exact (i6 _ _ _ _ _ _)) ?_
 refine a7 (J9 _ _) ?_
 refine a7 (Pu.g fun hb => by have d8 := hb; exact a7b) ?_
 refine b6 (Ld.g fun hb => by have d8 := hb; simp only [m8 d8]; exact (ld1 Tryd.isAgg3 (a8Y.at1 (o := 2) (vs := [(vi a1t.Y1)]) (nb rfl) rfl))) ?_
 refine a7 (Pu.g fun hb => by have d8 := hb; simp only [m8 d8]; exact (i6 _ _ _ _ _ _)) ?_
 refine a7 (J9 _ _) ?_
 refine a7 (Pu.g fun hb => by have d8 := hb; exact a3I) ?_
 refine b6 (Ld.g fun hb => by have d8 := hb; simp only [m8 d8]; exact (ld1 Tryd.isAgg45 (a8Y.at1 (o := 4) (vs := [(vs a1t.V2)]) (nb rfl) rfl))) ?_
 refine a7 (Pu.g fun hb => by have d8 := hb; simp only [m8 d8]; exact (a5b _ _ _)) ?_
 refine a7 (Pu.g fun hb => by have d8 := hb; simp only [m8 d8]; exact (i6 _ _ _ _ _ _)) ?_
 refine a7 (J9 _ _) ?_
 refine a7 (Pu.g fun hb => by have d8 := hb; exact a3I) ?_
 refine b6 (Ld.g fun hb => by have d8 := hb; simp only [m8 d8]; exact (ld1 Tryd.isAgg45 (a8Y.at1 (o := 4) (vs := [(vs a1t.V2)]) (nb rfl) rfl))) ?_
 obtain ⟨c4T, a9C, h⟩ := h
 obtain ⟨g8G, g8H, a9C⟩ := c1b a9C
 refine a7 (Pu.g fun hb => by have d8 := hb; simp only [m8 d8]; exact (Q9 (a9C hb).2.2.1 _ _ _ _ (a9C hb).1 (a9C hb).2.1)) ?_
 refine b6 (Ld.g fun hb => by have d8 := hb; simp only [m8 d8]; exact (ld1 (v := (vi c4T)) Tryd.isAgg2 (a8Y.atH (a9C hb).2.2.2))) ?_
 refine a7 (Pu.g fun hb => by have d8 := hb; simp only [m8 d8]; exact (i6 _ _ _ _ _ _)) ?_
 refine a7 (J9 _ _) ?_
 exact hR (((((decide (b8C = 0)) && (decide (a1t.P7 = 2))) && (decide (a1t.Y1 = 2))) && (decide ((a1t.V2.n : Int) = 1))) && (decide (c4T = 3))) c9b _ a8Y.drop.drop.drop h
theorem a7t {H : Hp} {K : Bool → Hp → Prop} (h : U4 H K) : a0N H K := by
 intro w I
 refine f4z ?_
 refine a6V I (fun r0 H' w' I' hk => ⟨H', _, I', r0, rfl, rfl, hk⟩) h
def T7 (x0 : Int) (H : Hp) (K : i4 → Hp → Prop) : Prop :=
 (x0 < 0 →
 ∀ (s_7 : Sl) (Z0 : Hp), Hle H Z0 → SlH Z0 4 b8 s_7 [(i4.mk 1 (IntKind.wrap .i64 (0 - x0)) ⟨#[]⟩ (Sl.mk none 0 0))] → s_7.n ≤ s_7.c →
 K (i4.mk 5 0 ⟨#[]⟩ s_7) Z0) ∧
 (¬ (x0 < 0) →
 K (i4.mk 1 x0 ⟨#[]⟩ (Sl.mk none 0 0)) H)
theorem a6K (x0 : Int) {K : i4 → Hp → Prop} (I : Inv w0 ps0 H0 H [] w) (hR : ∀ (r0 : i4) (H' : Hp) (w' : World) (_ : Inv w0 ps0 H0 H' [] w') (_ : K r0 H'), R (Value.agg (b8 r0).toArray) w') (h : T7 x0 H K) : F23 (vi x0) w R E := by
 unfold T7 at h
 unfold F23
 refine A8 I Tryd.zeroValue24 (cs := [(vi 0), (vi 0), (eS), (nS)]) rfl fun g_2 w_3 I_4 k_5 => ?_
 refine a7 (B7 _ _ _ _ _ _) ?_
 refine i2 (fun b6e => ?_) (fun b6e => ?_)
 ·replace h := h.1 b6e
  refine a7 (c1B _ _) ?_
  refine a7 (a4w _ _) ?_
  refine W7 (e := 24) (c := b8) (xs := [(i4.mk 1 (IntKind.wrap .i64 (0 - x0)) ⟨#[]⟩ (Sl.mk none 0 0))]) I_4 (b0l _ _ _ _ _ _) rfl rfl a0u a0v (nb rfl) fun s_7 F_8 w_9 b6w a3x b5Z => ?_
  refine a7 (b2A _ _ _ _) ?_
  refine o0 (a3x.bring 1) Tryd.sizeOf24 (vs := [(vi 5), (vi 0), (eS), (vs s_7)]) (cs' := [(vi 5), (vi 0), (eS), (vs s_7)]) rfl rfl (nb rfl) rfl rfl fun a0w T2 a2q => ?_
  refine a4Z Tryd.isAgg24 Tryd.sizeOf24 rfl (T2.at1 (o := 0) (vs := [(vi 5), (vi 0), (eS), (vs s_7)]) (nb rfl) rfl) ?_
  obtain ⟨Z0, b9D, g4S, c4V, d7I⟩ := Inv.freezeC (T2.bring 1) b6w (by decide)
  replace h := h s_7 Z0 g4S c4V d7I
  exact hR (i4.mk 5 0 ⟨#[]⟩ s_7) Z0 _ b9D.drop h
 ·replace h := h.2 b6e
  refine a7 (a4w _ _) ?_
  refine o0 I_4 Tryd.sizeOf24 (vs := [(vi 1), (vi x0), (eS), (nS)]) (cs' := [(vi 1), (vi x0), (eS), (nS)]) rfl rfl (nb rfl) rfl rfl fun a1N b9y g2X => ?_
  refine a4Z Tryd.isAgg24 Tryd.sizeOf24 rfl (b9y.at1 (o := 0) (vs := [(vi 1), (vi x0), (eS), (nS)]) (nb rfl) rfl) ?_
  exact hR (i4.mk 1 x0 ⟨#[]⟩ (Sl.mk none 0 0)) H _ b9y.drop h
theorem a6W (x0 : Int) {H : Hp} {K : i4 → Hp → Prop} (h : T7 x0 H K) : O3 x0 H K := by
 intro w I
 refine f5c ?_
 refine a6K x0 I (fun r0 H' w' I' hk => ⟨H', _, I', r0, rfl, rfl, hk⟩) h
def W5 (x0 : ByteArray) (x1 : i4) (H : Hp) (K : m9 → Hp → Prop) : Prop :=
 ∀ (b0g : Sl) (c0j : Hp), Hle H c0j → SlH c0j 4 b8 b0g [x1] → b0g.n ≤ b0g.c →
 K (m9.mk 1 x0 b0g (Sl.mk none 0 0) (Sl.mk none 0 0) (Sl.mk none 0 0)) c0j
theorem a7u (x0 : ByteArray) (x1 : i4) {K : m9 → Hp → Prop} (I : Inv w0 ps0 H0 H [] w) (hR : ∀ (r0 : m9) (H' : Hp) (w' : World) (_ : Inv w0 ps0 H0 H' [] w') (_ : K r0 H'), R (Value.agg (f8 r0).toArray) w') (h : W5 x0 x1 H K) : F24 (Value.string x0) (Value.agg (b8 x1).toArray) w R E := by
 unfold W5 at h
 unfold F24
 refine P2 I (cs := (b8 x1)) rfl fun g_2 w_3 I_4 k_5 => ?_
 refine A8 I_4 Tryd.zeroValue63 (cs := [(vi 0), (eS), (nS), (nS), (nS), (nS)]) rfl fun g_7 w_8 I_9 d3E => ?_
 refine b6 (ldA Tryd.isAgg24 Tryd.sizeOf24 rfl ((I_9.bring 1).at1 (o := 0) (vs := (b8 x1)) (nb rfl) rfl)) ?_
 refine W7 (e := 24) (c := b8) (xs := [x1]) I_9 (b0l _ _ _ _ _ _) rfl rfl a0u a0v (nb rfl) fun b0g d3J o3 g4T g4U g8I => ?_
 refine a7 (a3o _ _ _ _ _) ?_
 refine o0 (g4U.bring 1) Tryd.sizeOf63 (vs := [(vi 1), (Value.string x0), (vs b0g), (nS), (nS), (nS)]) (cs' := [(vi 1), (Value.string x0), (vs b0g), (nS), (nS), (nS)]) rfl rfl (nb rfl) rfl rfl fun p8 a4m b3u => ?_
 refine a4Z Tryd.isAgg63 Tryd.sizeOf63 rfl (a4m.at1 (o := 0) (vs := [(vi 1), (Value.string x0), (vs b0g), (nS), (nS), (nS)]) (nb rfl) rfl) ?_
 obtain ⟨c0j, b9y, b9E, c3s, b6q⟩ := Inv.freezeC (a4m.bring 1) g4T (by decide)
 replace h := h b0g c0j b9E c3s b6q
 exact hR (m9.mk 1 x0 b0g (Sl.mk none 0 0) (Sl.mk none 0 0) (Sl.mk none 0 0)) c0j _ b9y.drop.drop h
theorem a8Z (x0 : ByteArray) (x1 : i4) {H : Hp} {K : m9 → Hp → Prop} (h : W5 x0 x1 H K) : a1h x0 x1 H K := by
 intro w I
 refine f5e ?_
 refine a7u x0 x1 I (fun r0 H' w' I' hk => ⟨H', _, I', r0, rfl, rfl, hk⟩) h
def D7 (b5e : Int) (a6m : K6) (g5O : q8) (H : Hp) (K : Bool → Hp → Prop) : Prop :=
 ∃ b8D : Int, (((decide (a6m.P7 = 2)) && (decide (a6m.Y1 = 2))) = true → (0 : Int) ≤ 0 ∧ (0 : Int) < a6m.V2.n ∧ EltH H a6m.V2 0 1 [(vi b8D)]) ∧
 K (((decide (a6m.P7 = 2)) && (decide (a6m.Y1 = 2))) && (decide (b8D = b5e))) H
def Q1 (x0 : Int) (x1 : Int) (x2 : Int) (x3 : Int) (H : Hp) (K : Bool → Hp → Prop) : Prop :=
 a0N H (fun (C4 : Bool) (H_1 : Hp) =>
 ((!C4) = true →
 K false H_1) ∧
 ((!C4) = false →
 ((((((decide (x0 = (-9223372036854775808))) || (decide (x1 = (-9223372036854775808)))) || (decide (x2 = (-9223372036854775808)))) || (decide (x3 < 1))) || (decide (50 < x3))) = true →
 K true H_1) ∧
 ((((((decide (x0 = (-9223372036854775808))) || (decide (x1 = (-9223372036854775808)))) || (decide (x2 = (-9223372036854775808)))) || (decide (x3 < 1))) || (decide (50 < x3))) = false →
 O3 x0 H_1 (fun (a2J : i4) (a8l : Hp) =>
 O3 x2 a8l (fun (b1X : i4) (c3u : Hp) =>
 O3 x1 c3u (fun (c9d : i4) (b4d : Hp) =>
 ∀ (a5I : Sl) (c4W : Hp), Hle b4d c4W → SlH c4W 4 b8 a5I [c9d] → a5I.n ≤ a5I.c →
 a1h ⟨#[120]⟩ (i4.mk 4 0 ⟨#[97]⟩ a5I) c4W (fun (a5K : m9) (f7z : Hp) =>
 ∀ (a4X : Sl) (Z9 : Hp), Hle f7z Z9 → SlH Z9 4 b8 a4X [a2J, b1X] → a4X.n ≤ a4X.c →
 ∀ (a2S : Sl) (c4X : Hp), Hle Z9 c4X → SlH c4X 2 m3 a2S [(j7.mk ⟨#[120]⟩ 0), (j7.mk ⟨#[97]⟩ x3)] → a2S.n ≤ a2S.c →
 ∀ (a2T : Sl) (c4Y : Hp), Hle c4X c4Y → SlH c4Y 6 f8 a2T [(m9.mk 2 ⟨#[97]⟩ a4X (Sl.mk none 0 0) (Sl.mk none 0 0) (Sl.mk none 0 0)), a5K] → a2T.n ≤ a2T.c →
 a4I (q8.mk a2S a2T) (Sl.mk none 0 0) 10 c4Y (fun (A7 : K6) (b4e : Int) (a2e : Hp) =>
 ∃ b8E : Sl, ((((!decide (b4e = 0)) || (!decide ((A7.V2.n : Int) = 1))) || (!decide ((A7.R4.n : Int) = 1))) = false → (0 : Int) ≤ 0 ∧ (0 : Int) < A7.R4.n ∧ EltH a2e A7.R4 0 1 [(vs b8E)]) ∧
 (((((!decide (b4e = 0)) || (!decide ((A7.V2.n : Int) = 1))) || (!decide ((A7.R4.n : Int) = 1))) || (!decide ((b8E.n : Int) = x3))) = true →
 K false a2e) ∧
 (((((!decide (b4e = 0)) || (!decide ((A7.V2.n : Int) = 1))) || (!decide ((A7.R4.n : Int) = 1))) || (!decide ((b8E.n : Int) = x3))) = false →
 (((decide (x0 < 0)) || (decide (x3 ≤ x0))) = true →
 K (((decide (A7.P7 = 3)) && (decide (A7.a5l = 3))) && (decide (A7.Y1 = 1))) a2e) ∧
 (((decide (x0 < 0)) || (decide (x3 ≤ x0))) = false →
 (0 : Int) ≤ 0 ∧ (0 : Int) < A7.R4.n ∧ ∃ b8F : Sl, EltH a2e A7.R4 0 1 [(vs b8F)] ∧
 (0 : Int) ≤ x0 ∧ (x0 : Int) < b8F.n ∧ ∃ b8G : Int, EltH a2e b8F x0 1 [(vi b8G)] ∧
 (¬ (b8G = x2) →
 K false a2e) ∧
 (b8G = x2 →
 (((decide (x1 < 0)) || (decide (x3 ≤ x1))) = true →
 K (((decide (A7.P7 = 3)) && (decide (A7.a5l = 3))) && (decide (A7.Y1 = 2))) a2e) ∧
 (((decide (x1 < 0)) || (decide (x3 ≤ x1))) = false →
 (x0 = x1 →
 D7 x2 A7 (q8.mk a2S a2T) a2e K) ∧
 (¬ (x0 = x1) →
 D7 0 A7 (q8.mk a2S a2T) a2e K)))))))))))))
theorem a5N (x0 : Int) (x1 : Int) (x2 : Int) (x3 : Int) {K : Bool → Hp → Prop} (I : Inv w0 ps0 H0 H [] w) (hR : ∀ (r0 : Bool) (H' : Hp) (w' : World) (_ : Inv w0 ps0 H0 H' [] w') (_ : K r0 H'), R (vB r0) w') (h : Q1 x0 x1 x2 x3 H K) : F7 (vi x0) (vi x1) (vi x2) (vi x3) w R E := by
 unfold Q1 at h
 unfold F7
 refine d6 (cap := []) (fun args w => Tryd.call17 args w) ?_
 refine m6 (Fi := []) (Fr := []) I (h) (fun v_5 H_1 F_6 w_2 I_3 l_8 k_4 q_7 => ?_) (fun _ _ _ _ _ q => q.elim)
 obtain ⟨C4, rfl, rfl, h⟩ := q_7
 refine a7 (a0E _) ?_
 refine o8 (fun c9e => ?_) (fun c9e => ?_)
 ·replace h := h.1 c9e
  exact hR false H_1 _ I_3 h
 ·replace h := h.2 c9e
  refine a7 (i6 _ _ _ _ _ _) ?_
  simp only [G8]
  refine a7 (Pu.g fun hb => by have d8 := hb; simp only [m8 d8]; exact (i6 _ _ _ _ _ _)) ?_
  refine a7 (T4 _ _) ?_
  simp only [G8]
  refine a7 (Pu.g fun hb => by have d8 := hb; simp only [m8 d8]; exact (i6 _ _ _ _ _ _)) ?_
  refine a7 (T4 _ _) ?_
  simp only [G8]
  refine a7 (Pu.g fun hb => by have d8 := hb; simp only [m8 d8]; exact (B7 _ _ _ _ _ _)) ?_
  refine a7 (T4 _ _) ?_
  simp only [G8]
  refine a7 (Pu.g fun hb => by have d8 := hb; simp only [m8 d8]; exact (a1f _ _ _ _ _ _)) ?_
  refine a7 (T4 _ _) ?_
  refine o8 (fun c9f => ?_) (fun c9f => ?_)
  ·replace h := h.1 c9f
   exact hR true H_1 _ I_3 h
  ·replace h := h.2 c9f
   refine a7 (b5A _) ?_
   refine a7 (c0S _ _) ?_
   refine W7 (e := 58) (c := m3) (xs := [(j7.mk ⟨#[120]⟩ 0), (j7.mk ⟨#[97]⟩ x3)]) I_3 (d9O _ _ _ _) rfl rfl b2v b2w (nb rfl) fun a2S c9g a0w g4V b5T c7v => ?_
   refine d6 (cap := []) (fun args w => Tryd.call23 args w) ?_
   refine m6 (Fi := []) (Fr := [c9g]) b5T (h) (fun d3K a8l d3L p8 a4m d3M b3u b6d => ?_) (fun _ _ _ _ _ q => q.elim)
   obtain ⟨a2J, rfl, rfl, h⟩ := b6d
   refine d6 (cap := []) (fun args w => Tryd.call23 args w) ?_
   refine m6 (Fi := []) (Fr := [c9g]) a4m (h) (fun g4e c3u g4f a3i a8g b9M d4U d4V => ?_) (fun _ _ _ _ _ q => q.elim)
   obtain ⟨b1X, rfl, rfl, h⟩ := d4V
   refine W7 (e := 24) (c := b8) (xs := [a2J, b1X]) a8g (c5T _ _ _ _ _ _ _ _ _ _ _ _) rfl rfl a0u a0v (nb rfl) fun a4X d7J C7 c3q a4K d3S => ?_
   refine a7 (a3o _ _ _ _ _) ?_
   refine d6 (cap := []) (fun args w => Tryd.call23 args w) ?_
   refine m6 (Fi := []) (Fr := [d7J, c9g]) a4K (h) (fun g8J b4d g8K b3d g4W f7y g8L g4X => ?_) (fun _ _ _ _ _ q => q.elim)
   obtain ⟨c9d, rfl, rfl, h⟩ := g4X
   refine W7 (e := 24) (c := b8) (xs := [c9d]) g4W (b0l _ _ _ _ _ _) rfl rfl a0u a0v (nb rfl) fun a5I g8M L2 d4W c7O g8N => ?_
   refine a7 (b7i _ _ _ _ _) ?_
   obtain ⟨c4W, b6h, g4Y, d7N, c3p⟩ := Inv.freezeC c7O d4W (by decide)
   replace h := h a5I c4W g4Y d7N c3p
   refine d6 (cap := []) (fun args w => Tryd.call24 args w) ?_
   refine m6 (Fi := []) (Fr := [d7J, c9g]) b6h (h) (fun g8O f7z g8P M5 c9c d4c g4L g4Z => ?_) (fun _ _ _ _ _ q => q.elim)
   obtain ⟨a5K, rfl, rfl, h⟩ := g4Z
   obtain ⟨Z9, c4U, d7K, d7L, d7M⟩ := Inv.freezeC c9c c3q (by decide)
   replace h := h a4X Z9 d7K d7L d7M
   refine W7 (e := 63) (c := f8) (xs := [(m9.mk 2 ⟨#[97]⟩ a4X (Sl.mk none 0 0) (Sl.mk none 0 0) (Sl.mk none 0 0)), a5K]) c4U (c5U _ _ _ _ _ _ _ _ _ _ _ _ _ _ _ _ _ _ _ _ _ _ _ _ _ _ _ _) rfl rfl b2x b2y (nb rfl) fun a2T g8Q R1 g5a g5b g8R => ?_
   refine a7 (b2z _ _ _ _ _ _) ?_
   refine A8 g5b Tryd.zeroValue44 (cs := [(nS), (nS)]) rfl fun f7A R2 g5c g8S => ?_
   refine o0 g5c Tryd.sizeOf44 (vs := [(vs a2S), (vs a2T)]) (cs' := [(vs a2S), (vs a2T)]) rfl rfl (nb rfl) rfl rfl fun b6K f7B g8T => ?_
   refine b6 (ldA Tryd.isAgg44 Tryd.sizeOf44 rfl (f7B.at1 (o := 0) (vs := [(vs a2S), (vs a2T)]) (nb rfl) rfl)) ?_
   obtain ⟨c4X, g5d, c4Z, g5e, g5f⟩ := Inv.freezeC (f7B.bring 2) g4V (by decide)
   replace h := h a2S c4X c4Z g5e g5f
   obtain ⟨c4Y, c9h, d3s, a9C, g0U⟩ := Inv.freezeC (g5d.bring 1) g5a (by decide)
   replace h := h a2T c4Y d3s a9C g0U
   refine d6 (cap := []) (fun args w => Tryd.call18 args w) ?_
   refine m6 (Fi := []) (Fr := [bx f7A 44 [(vs a2S), (vs a2T)]]) c9h (h) (fun g5R a2e g5S b5d c9i c8Q g0V g0W => ?_) (fun _ _ _ _ _ q => q.elim)
   obtain ⟨A7, b4e, rfl, rfl, h⟩ := g0W
   refine a7 (m4 _ _ _ rfl) ?_
   refine a7 (m4 _ _ (vi b4e) rfl) ?_
   refine A8 c9i Tryd.zeroValue49 (cs := [(vi 0), (vi 0), (vi 0), (nS), (nS), (nS)]) rfl fun d9d g5T g0X g5U => ?_
   refine o0 g0X Tryd.sizeOf49 (vs := (p6 A7)) (cs' := (p6 A7)) rfl rfl (nb rfl) rfl rfl fun S4 a0W g5V => ?_
   refine a7 (Y0 _ _ _ _ _ _) ?_
   refine a7 (Pu.g fun hb => by have d8 := hb; exact a3I) ?_
   refine b6 (Ld.g fun hb => by have d8 := hb; simp only [m8 d8]; exact (ld1 Tryd.isAgg45 (a0W.at1 (o := 4) (vs := [(vs A7.V2)]) (nb rfl) rfl))) ?_
   refine a7 (Pu.g fun hb => by have d8 := hb; simp only [m8 d8]; exact (a5b _ _ _)) ?_
   refine a7 (Pu.g fun hb => by have d8 := hb; simp only [m8 d8]; exact (Y0 _ _ _ _ _ _)) ?_
   refine a7 (T4 _ _) ?_
   refine a7 (Pu.g fun hb => by have d8 := hb; exact a5n) ?_
   refine b6 (Ld.g fun hb => by have d8 := hb; simp only [m8 d8]; exact (ld1 Tryd.isAgg47 (a0W.at1 (o := 5) (vs := [(vs A7.R4)]) (nb rfl) rfl))) ?_
   refine a7 (Pu.g fun hb => by have d8 := hb; simp only [m8 d8]; exact (d0n _ _ _)) ?_
   refine a7 (Pu.g fun hb => by have d8 := hb; simp only [m8 d8]; exact (Y0 _ _ _ _ _ _)) ?_
   refine a7 (T4 _ _) ?_
   refine a7 (Pu.g fun hb => by have d8 := hb; exact a5n) ?_
   refine b6 (Ld.g fun hb => by have d8 := hb; simp only [m8 d8]; exact (ld1 Tryd.isAgg47 (a0W.at1 (o := 5) (vs := [(vs A7.R4)]) (nb rfl) rfl))) ?_
   obtain ⟨b8E, b5f, h⟩ := h
   obtain ⟨g5W, g5X, b5f⟩ := c1b b5f
   refine a7 (Pu.g fun hb => by have d8 := hb; simp only [m8 d8]; exact (c1K (b5f hb).2.2.1 _ _ _ _ (b5f hb).1 (b5f hb).2.1)) ?_
   refine b6 (Ld.g fun hb => by have d8 := hb; simp only [m8 d8]; exact (ld1 (v := (vs b8E)) Tryd.isAgg45 (a0W.atH (b5f hb).2.2.2))) ?_
   refine a7 (Pu.g fun hb => by have d8 := hb; simp only [m8 d8]; exact (a5b _ _ _)) ?_
   simp only [G8]
   refine a7 (Pu.g fun hb => by have d8 := hb; simp only [m8 d8]; exact (Y0 _ _ _ _ _ _)) ?_
   refine a7 (T4 _ _) ?_
   refine o8 (fun c9j => ?_) (fun c9j => ?_)
   ·replace h := h.1 c9j
    exact hR false a2e _ a0W.drop.drop h
   ·replace h := h.2 c9j
    refine a7 (B7 _ _ _ _ _ _) ?_
    simp only [G8]
    refine a7 (Pu.g fun hb => by have d8 := hb; simp only [m8 d8]; exact (a6y _ _ _ _ _ _)) ?_
    refine a7 (T4 _ _) ?_
    refine o8 (fun c9k => ?_) (fun c9k => ?_)
    ·replace h := h.1 c9k
     refine a7 a7c ?_
     refine b6 (ld1 Tryd.isAgg3 (a0W.at1 (o := 0) (vs := [(vi A7.P7)]) (nb rfl) rfl)) ?_
     refine a7 (i6 _ _ _ _ _ _) ?_
     refine a7 (Pu.g fun hb => by have d8 := hb; exact b7h) ?_
     refine b6 (Ld.g fun hb => by have d8 := hb; simp only [m8 d8]; exact (ld1 Tryd.isAgg3 (a0W.at1 (o := 1) (vs := [(vi A7.a5l)]) (nb rfl) rfl))) ?_
     refine a7 (Pu.g fun hb => by have d8 := hb; simp only [m8 d8]; exact (i6 _ _ _ _ _ _)) ?_
     refine a7 (J9 _ _) ?_
     refine a7 (Pu.g fun hb => by have d8 := hb; exact a7b) ?_
     refine b6 (Ld.g fun hb => by have d8 := hb; simp only [m8 d8]; exact (ld1 Tryd.isAgg3 (a0W.at1 (o := 2) (vs := [(vi A7.Y1)]) (nb rfl) rfl))) ?_
     refine a7 (Pu.g fun hb => by have d8 := hb; simp only [m8 d8]; exact (i6 _ _ _ _ _ _)) ?_
     refine a7 (J9 _ _) ?_
     exact hR (((decide (A7.P7 = 3)) && (decide (A7.a5l = 3))) && (decide (A7.Y1 = 1))) a2e _ a0W.drop.drop h
    ·replace h := h.2 c9k
     refine a7 a5n ?_
     refine b6 (ld1 Tryd.isAgg47 (a0W.at1 (o := 5) (vs := [(vs A7.R4)]) (nb rfl) rfl)) ?_
     obtain ⟨g0Y, g0Z, b8F, c9l, h⟩ := h
     obtain ⟨g5Y, g5Z, g1a, c9l⟩ := c9l
     refine a7 (c1K g1a _ _ _ _ g0Y g0Z) ?_
     refine b6 (ld1 (v := (vs b8F)) Tryd.isAgg45 (a0W.atH c9l)) ?_
     obtain ⟨g1b, g1c, b8G, c9m, h⟩ := h
     obtain ⟨g6a, g6b, g1d, c9m⟩ := c9m
     refine a7 (Q9 g1d _ _ _ _ g1b g1c) ?_
     refine b6 (ld1 (v := (vi b8G)) Tryd.isAgg2 (a0W.atH c9m)) ?_
     refine a7 (Y0 _ _ _ _ _ _) ?_
     refine a5a (fun c9n => ?_) (fun c9n => ?_)
     ·replace h := h.1 c9n
      exact hR false a2e _ a0W.drop.drop h
     ·replace h := h.2 c9n
      refine a7 (B7 _ _ _ _ _ _) ?_
      simp only [G8]
      refine a7 (Pu.g fun hb => by have d8 := hb; simp only [m8 d8]; exact (a6y _ _ _ _ _ _)) ?_
      refine a7 (T4 _ _) ?_
      refine o8 (fun c9o => ?_) (fun c9o => ?_)
      ·replace h := h.1 c9o
       refine a7 a7c ?_
       refine b6 (ld1 Tryd.isAgg3 (a0W.at1 (o := 0) (vs := [(vi A7.P7)]) (nb rfl) rfl)) ?_
       refine a7 (i6 _ _ _ _ _ _) ?_
       refine a7 (Pu.g fun hb => by have d8 := hb; exact b7h) ?_
       refine b6 (Ld.g fun hb => by have d8 := hb; simp only [m8 d8]; exact (ld1 Tryd.isAgg3 (a0W.at1 (o := 1) (vs := [(vi A7.a5l)]) (nb rfl) rfl))) ?_
       refine a7 (Pu.g fun hb => by have d8 := hb; simp only [m8 d8]; exact (i6 _ _ _ _ _ _)) ?_
       refine a7 (J9 _ _) ?_
       refine a7 (Pu.g fun hb => by have d8 := hb; exact a7b) ?_
       refine b6 (Ld.g fun hb => by have d8 := hb; simp only [m8 d8]; exact (ld1 Tryd.isAgg3 (a0W.at1 (o := 2) (vs := [(vi A7.Y1)]) (nb rfl) rfl))) ?_
       refine a7 (Pu.g fun hb => by have d8 := hb; simp only [m8 d8]; exact (i6 _ _ _ _ _ _)) ?_
       refine a7 (J9 _ _) ?_
       exact hR (((decide (A7.P7 = 3)) && (decide (A7.a5l = 3))) && (decide (A7.Y1 = 2))) a2e _ a0W.drop.drop h
      ·replace h := h.2 c9o
       have hj1 : ∀ (b5e : Int) (H : Hp) (w : World) (_ : Inv w0 ps0 H0 H [bx d9d 49 (p6 A7), bx f7A 44 [(Value.slice (q8.mk a2S a2T).a2j.a (q8.mk a2S a2T).a2j.n (q8.mk a2S a2T).a2j.c), (Value.slice (q8.mk a2S a2T).a3D.a (q8.mk a2S a2T).a3D.n (q8.mk a2S a2T).a3D.c)]] w) (_ : D7 b5e A7 (q8.mk a2S a2T) H K), c8R (Value.pointer (some ⟨d9d, 0, none⟩)) (vi b5e) w R E := by
        intro b5e H w I h
        unfold c8R
        intro _
        unfold D7 at h
        refine a7 a7c ?_
        refine b6 (ld1 Tryd.isAgg3 (I.at1 (o := 0) (vs := [(vi A7.P7)]) (nb rfl) rfl)) ?_
        refine a7 (i6 _ _ _ _ _ _) ?_
        refine a7 (Pu.g fun hb => by have d8 := hb; exact a7b) ?_
        refine b6 (Ld.g fun hb => by have d8 := hb; simp only [m8 d8]; exact (ld1 Tryd.isAgg3 (I.at1 (o := 2) (vs := [(vi A7.Y1)]) (nb rfl) rfl))) ?_
        refine a7 (Pu.g fun hb => by have d8 := hb; simp only [m8 d8]; exact (i6 _ _ _ _ _ _)) ?_
        refine a7 (J9 _ _) ?_
        refine a7 (Pu.g fun hb => by have d8 := hb; exact a3I) ?_
        refine b6 (Ld.g fun hb => by have d8 := hb; simp only [m8 d8]; exact (ld1 Tryd.isAgg45 (I.at1 (o := 4) (vs := [(vs A7.V2)]) (nb rfl) rfl))) ?_
        obtain ⟨b8D, b5g, h⟩ := h
        obtain ⟨g6c, g6d, b5g⟩ := c1b b5g
        refine a7 (Pu.g fun hb => by have d8 := hb; simp only [m8 d8]; exact (Q9 (b5g hb).2.2.1 _ _ _ _ (b5g hb).1 (b5g hb).2.1)) ?_
        refine b6 (Ld.g fun hb => by have d8 := hb; simp only [m8 d8]; exact (ld1 (v := (vi b8D)) Tryd.isAgg2 (I.atH (b5g hb).2.2.2))) ?_
        simp only [G8]
        refine a7 (Pu.g fun hb => by have d8 := hb; simp only [m8 d8]; exact (i6 _ _ _ _ _ _)) ?_
        refine a7 (J9 _ _) ?_
        exact hR (((decide (A7.P7 = 2)) && (decide (A7.Y1 = 2))) && (decide (b8D = b5e))) H _ I.drop.drop h
       refine A6 fun j1 hx1 => ?_
       refine a7 (i6 _ _ _ _ _ _) ?_
       refine i2 (fun c9p => ?_) (fun c9p => ?_)
       ·replace h := h.1 c9p
        exact hx1 _ _ (hj1 x2 a2e _ ((a0W.bring 1).bring 1) h)
       ·replace h := h.2 c9p
        exact hx1 _ _ (hj1 0 a2e _ ((a0W.bring 1).bring 1) h)
theorem a5P (x0 : Int) (x1 : Int) (x2 : Int) (x3 : Int) {H : Hp} {K : Bool → Hp → Prop} (h : Q1 x0 x1 x2 x3 H K) : Q0 x0 x1 x2 x3 H K := by
 intro w I
 refine g0u ?_
 refine a5N x0 x1 x2 x3 I (fun r0 H' w' I' hk => ⟨H', _, I', r0, rfl, rfl, hk⟩) h
def a2r (x0 : i4) (H : Hp) (K : Int → Bool → Hp → Prop) : Prop :=
 (x0.b9 = 1 →
 K x0.I0 true H) ∧
 (¬ (x0.b9 = 1) →
 ∃ x_6 : i4, ((decide (x0.b9 = 5)) = true → (0 : Int) ≤ 0 ∧ (0 : Int) < x0.y9.n ∧ EltH H x0.y9 0 4 (b8 x_6)) ∧
 (((decide (x0.b9 = 5)) && (decide (x_6.b9 = 1))) = true →
 (0 : Int) ≤ 0 ∧ (0 : Int) < x0.y9.n ∧ ∃ b3L : i4, EltH H x0.y9 0 4 (b8 b3L) ∧
 K (IntKind.wrap .i64 (0 - b3L.I0)) true H) ∧
 (((decide (x0.b9 = 5)) && (decide (x_6.b9 = 1))) = false →
 K 0 false H))
theorem b0h (x0 : i4) {K : Int → Bool → Hp → Prop} (I : Inv w0 ps0 H0 H [] w) (hR : ∀ (r0 : Int) (r1 : Bool) (H' : Hp) (w' : World) (_ : Inv w0 ps0 H0 H' [] w') (_ : K r0 r1 H'), R (Value.tuple #[(vi r0), (vB r1)]) w') (h : a2r x0 H K) : c8Z (Value.agg (b8 x0).toArray) w R E := by
 unfold a2r at h
 unfold c8Z
 refine P2 I (cs := (b8 x0)) rfl fun g_2 w_3 I_4 k_5 => ?_
 refine a7 V3 ?_
 refine b6 (ld1 Tryd.isAgg3 (I_4.at1 (o := 0) (vs := [(vi x0.b9)]) (nb rfl) rfl)) ?_
 refine a7 (i6 _ _ _ _ _ _) ?_
 refine i2 (fun a8u => ?_) (fun a8u => ?_)
 ·replace h := h.1 a8u
  refine a7 a7d ?_
  refine b6 (ld1 Tryd.isAgg2 (I_4.at1 (o := 1) (vs := [(vi x0.I0)]) (nb rfl) rfl)) ?_
  exact hR x0.I0 true H _ I_4.drop h
 ·replace h := h.2 a8u
  refine a7 V3 ?_
  refine b6 (ld1 Tryd.isAgg3 (I_4.at1 (o := 0) (vs := [(vi x0.b9)]) (nb rfl) rfl)) ?_
  refine a7 (i6 _ _ _ _ _ _) ?_
  refine a7 (Pu.g fun hb => by have d8 := hb; exact a3H) ?_
  refine b6 (Ld.g fun hb => by have d8 := hb; simp only [m8 d8]; exact (ld1 Tryd.isAgg22 (I_4.at1 (o := 3) (vs := [(vs x0.y9)]) (nb rfl) rfl))) ?_
  obtain ⟨x_6, b4f, h⟩ := h
  obtain ⟨g_7, o_8, b4f⟩ := c1b b4f
  refine a7 (Pu.g fun hb => by have d8 := hb; simp only [m8 d8]; exact (a1g (b4f hb).2.2.1 _ _ _ _ (b4f hb).1 (b4f hb).2.1)) ?_
  refine a7 (Pu.g fun hb => by have d8 := hb; simp only [m8 d8]; exact V3) ?_
  refine b6 (Ld.g fun hb => by have d8 := hb; simp only [m8 d8]; exact (ld1 (v := (vi x_6.b9)) Tryd.isAgg3 ((I_4.atH (b4f hb).2.2.2).sub (k := 0) (n := 1) (nb rfl)))) ?_
  refine a7 (Pu.g fun hb => by have d8 := hb; simp only [m8 d8]; exact (i6 _ _ _ _ _ _)) ?_
  refine a7 (J9 _ _) ?_
  refine o8 (fun a4N => ?_) (fun a4N => ?_)
  ·replace h := h.1 a4N
   refine a7 a3H ?_
   refine b6 (ld1 Tryd.isAgg22 (I_4.at1 (o := 3) (vs := [(vs x0.y9)]) (nb rfl) rfl)) ?_
   obtain ⟨g5g, g5h, b3L, c4V, h⟩ := h
   obtain ⟨g8U, g8V, d7O, c4V⟩ := c4V
   refine a7 (a1g d7O _ _ _ _ g5g g5h) ?_
   refine a7 a7d ?_
   refine b6 (ld1 (v := (vi b3L.I0)) Tryd.isAgg2 ((I_4.atH c4V).sub (k := 1) (n := 1) (nb rfl))) ?_
   refine a7 (c1B _ _) ?_
   exact hR (IntKind.wrap .i64 (0 - b3L.I0)) true H _ I_4.drop h
  ·replace h := h.2 a4N
   exact hR 0 false H _ I_4.drop h
theorem b0L (x0 : i4) {H : Hp} {K : Int → Bool → Hp → Prop} (h : a2r x0 H K) : a5e x0 H K := by
 intro w I
 refine e4S ?_
 refine b0h x0 I (fun r0 r1 H' w' I' hk => ⟨H', _, I', r0, r1, rfl, rfl, hk⟩) h
end Go.Proofs.YtnhkdkcgdcgmdaaDoor
