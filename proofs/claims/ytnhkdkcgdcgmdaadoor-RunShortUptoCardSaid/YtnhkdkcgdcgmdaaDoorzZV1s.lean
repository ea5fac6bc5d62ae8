/- Typed formulas of the program's functions that few laws need; printed by lift.py off the code. -/
import Derived.Test.YtnhkdkcgdcgmdaaDoorzZV1
import Derived.Test.YtnhkdkcgdcgmdaaDoorzZG1s
namespace Go.Proofs.YtnhkdkcgdcgmdaaDoor
open Go.RowKit
set_option maxRecDepth 100000
set_option maxHeartbeats 2000000
variable {w0 w : World} {ps0 : Nat → Prop} {H0 H : Hp} {R : RT} {E : Pan}
def V3 (H : Hp) (K : Bool → Hp → Prop) : Prop :=
 ∀ (s_2 : Sl) (b2R : Hp), Hle H b2R → SlH b2R 4 d5 s_2 [(i4.mk 2 0 ⟨#[120]⟩ (Sl.mk none 0 0)), (i4.mk 1 2 ⟨#[]⟩ (Sl.mk none 0 0))] → s_2.n ≤ s_2.c →
 ∀ (b7p : Sl) (c5R : Hp), Hle b2R c5R → SlH c5R 4 d5 b7p [(i4.mk 1 1 ⟨#[]⟩ (Sl.mk none 0 0))] → b7p.n ≤ b7p.c →
 ∀ (b7q : Sl) (b2q : Hp), Hle c5R b2q → SlH b2q 4 d5 b7q [(i4.mk 6 0 ⟨#[]⟩ s_2)] → b7q.n ≤ b7q.c →
 ∀ (S2 : Sl) (c5S : Hp), Hle b2q c5S → SlH c5S 2 m7 S2 [(m3.mk ⟨#[120]⟩ 0)] → S2.n ≤ S2.c →
 ∀ (a9c : Sl) (a2l : Hp), Hle c5S a2l → SlH a2l 6 i5 a9c [(p6.mk 1 ⟨#[120]⟩ b7p (Sl.mk none 0 0) (Sl.mk none 0 0) (Sl.mk none 0 0)), (p6.mk 1 ⟨#[120]⟩ b7q (Sl.mk none 0 0) (Sl.mk none 0 0) (Sl.mk none 0 0))] → a9c.n ≤ a9c.c →
 a8H (C4.mk S2 a9c) (Sl.mk none 0 0) 9 a2l (fun (a1O : R2) (b9h : Int) (d0p : Hp) =>
 ∃ c5T : Int, (((((decide (b9h = 0)) && (decide (a1O.a4a = 2))) && (decide (a1O.a5B = 2))) && (decide ((a1O.a2o.n : Int) = 1))) = true → (0 : Int) ≤ 0 ∧ (0 : Int) < a1O.a2o.n ∧ EltH d0p a1O.a2o 0 1 [(vi c5T)]) ∧
 K (((((decide (b9h = 0)) && (decide (a1O.a4a = 2))) && (decide (a1O.a5B = 2))) && (decide ((a1O.a2o.n : Int) = 1))) && (decide (c5T = 3))) d0p)
theorem a7v {K : Bool → Hp → Prop} (I : Inv w0 ps0 H0 H [] w) (hR : ∀ (r0 : Bool) (H' : Hp) (w' : World) (_ : Inv w0 ps0 H0 H' [] w') (_ : K r0 H'), R (vB r0) w') (h : V3 H K) : F17 w R E := by
 unfold V3 at h
 unfold F17
 refine a7 (b3h _ _) ?_
 refine a7 (a4T _ _) ?_
 refine U6 (e := 24) (c := d5) (xs := [(i4.mk 2 0 ⟨#[120]⟩ (Sl.mk none 0 0)), (i4.mk 1 2 ⟨#[]⟩ (Sl.mk none 0 0))]) I (b9y _ _ _ _ _ _ _ _ _ _ _ _) rfl rfl a0S a0T (nb rfl) fun s_2 F_3 w_4 h_5 I_6 k_7 => ?_
 refine a7 (a7l _ _ _ _) ?_
 refine u6 I_6 Tryd.zeroValue24 (cs := [(vi 0), (vi 0), (eS), (nS)]) rfl fun g_9 o3 a3U b6G => ?_
 refine o7 a3U Tryd.sizeOf24 (vs := [(vi 6), (vi 0), (eS), (vs s_2)]) (cs' := [(vi 6), (vi 0), (eS), (vs s_2)]) rfl rfl (nb rfl) rfl rfl fun a0I N5 a1T => ?_
 refine a7 (b6f _) ?_
 refine U6 (e := 58) (c := m7) (xs := [(m3.mk ⟨#[120]⟩ 0)]) N5 (c6O _ _) rfl rfl b3d b3e (nb rfl) fun S2 f8i a2U b7r a6m c0c => ?_
 refine a7 (a4T _ _) ?_
 refine U6 (e := 24) (c := d5) (xs := [(i4.mk 1 1 ⟨#[]⟩ (Sl.mk none 0 0))]) a6m (b5b _ _ _ _ _ _) rfl rfl a0S a0T (nb rfl) fun b7p g9f A9 d6b b1Z f1e => ?_
 refine a7 (a5E _ _ _ _ _) ?_
 refine d6 (ldA Tryd.isAgg24 Tryd.sizeOf24 rfl ((b1Z.bring 2).at1 (o := 0) (vs := [(vi 6), (vi 0), (eS), (vs s_2)]) (nb rfl) rfl)) ?_
 obtain ⟨b2R, b6B, f0U, g5H, d5H⟩ := Inv.freezeC (b1Z.bring 3) h_5 (by decide)
 replace h := h s_2 b2R f0U g5H d5H
 refine U6 (e := 24) (c := d5) (xs := [(i4.mk 6 0 ⟨#[]⟩ s_2)]) b6B (b5b _ _ _ _ _ _) rfl rfl a0S a0T (nb rfl) fun b7q g9g D9 d5B a6t f0M => ?_
 refine a7 (a5E _ _ _ _ _) ?_
 obtain ⟨c5R, g5I, g5J, f8j, g5K⟩ := Inv.freezeC (a6t.bring 1) d6b (by decide)
 replace h := h b7p c5R g5J f8j g5K
 obtain ⟨b2q, g5L, g5M, g5N, d4T⟩ := Inv.freezeC g5I d5B (by decide)
 replace h := h b7q b2q g5M g5N d4T
 refine U6 (e := 63) (c := i5) (xs := [(p6.mk 1 ⟨#[120]⟩ b7p (Sl.mk none 0 0) (Sl.mk none 0 0) (Sl.mk none 0 0)), (p6.mk 1 ⟨#[120]⟩ b7q (Sl.mk none 0 0) (Sl.mk none 0 0) (Sl.mk none 0 0))]) g5L (e0j _ _ _ _ _ _ _ _ _ _ _ _ _ _ _ _ _ _ _ _ _ _ _ _ _ _ _ _) rfl rfl b3f b3g (nb rfl) fun a9c g4W b2v d5w c8R g4X => ?_
 refine a7 (c1A _ _ _ _ _ _) ?_
 refine u6 c8R Tryd.zeroValue44 (cs := [(nS), (nS)]) rfl fun g5O d5y g5P g9h => ?_
 refine o7 g5P Tryd.sizeOf44 (vs := [(vs S2), (vs a9c)]) (cs' := [(vs S2), (vs a9c)]) rfl rfl (nb rfl) rfl rfl fun N9 f8k g9i => ?_
 refine d6 (ldA Tryd.isAgg44 Tryd.sizeOf44 rfl (f8k.at1 (o := 0) (vs := [(vs S2), (vs a9c)]) (nb rfl) rfl)) ?_
 obtain ⟨c5S, b4e, g5Q, g5R, g5S⟩ := Inv.freezeC (f8k.bring 2) b7r (by decide)
 replace h := h S2 c5S g5Q g5R g5S
 obtain ⟨a2l, d8g, g5T, g5U, g5V⟩ := Inv.freezeC (b4e.bring 1) d5w (by decide)
 replace h := h a9c a2l g5T g5U g5V
 refine d8 (cap := []) (fun args w => Tryd.call18 args w) ?_
 refine m9 (Fi := []) (Fr := [bx g5O 44 [(vs S2), (vs a9c)], bx g_9 24 [(vi 6), (vi 0), (eS), (vs s_2)]]) d8g (h) (fun g9j d0p g9k N3 g5W g9l g9m g5X => ?_) (fun _ _ _ _ _ q => q.elim)
 obtain ⟨a1O, b9h, rfl, rfl, h⟩ := g5X
 refine a7 (o2 _ _ _ rfl) ?_
 refine a7 (o2 _ _ (vi b9h) rfl) ?_
 refine u6 g5W Tryd.zeroValue49 (cs := [(vi 0), (vi 0), (vi 0), (nS), (nS), (nS)]) rfl fun g9n N4 g5Y g9o => ?_
 refine o7 g5Y Tryd.sizeOf49 (vs := (q7 a1O)) (cs' := (q7 a1O)) rfl rfl (nb rfl) rfl rfl fun b4B a9v g9p => ?_
 refine a7 (l0 _ _ _ _ _ _) ?_
 refine a7 (Pu.g fun hb => by have j9 := hb; exact b1I) ?_
 refine d6 (Ld.g fun hb => by have j9 := hb; simp only [s6 j9]; exact (ld1 Tryd.isAgg3 (a9v.at1 (o := 0) (vs := [(vi a1O.a4a)]) (nb rfl) rfl))) ?_
 refine a7 (Pu.g fun hb => by have j9 := hb; simp only [s6 j9]; exact (l0 _ _ _ _ _ _)) ?_
 refine a7 (P7 _ _) ?_
 refine a7 (Pu.g fun hb => by have j9 := hb; exact b1H) ?_
 refine d6 (Ld.g fun hb => by have j9 := hb; simp only [s6 j9]; exact (ld1 Tryd.isAgg3 (a9v.at1 (o := 2) (vs := [(vi a1O.a5B)]) (nb rfl) rfl))) ?_
 refine a7 (Pu.g fun hb => by have j9 := hb; simp only [s6 j9]; exact (l0 _ _ _ _ _ _)) ?_
 refine a7 (P7 _ _) ?_
 refine a7 (Pu.g fun hb => by have j9 := hb; exact a4f) ?_
 refine d6 (Ld.g fun hb => by have j9 := hb; simp only [s6 j9]; exact (ld1 Tryd.isAgg45 (a9v.at1 (o := 4) (vs := [(vs a1O.a2o)]) (nb rfl) rfl))) ?_
 refine a7 (Pu.g fun hb => by have j9 := hb; simp only [s6 j9]; exact (a6V _ _ _)) ?_
 refine a7 (Pu.g fun hb => by have j9 := hb; simp only [s6 j9]; exact (l0 _ _ _ _ _ _)) ?_
 refine a7 (P7 _ _) ?_
 refine a7 (Pu.g fun hb => by have j9 := hb; exact a4f) ?_
 refine d6 (Ld.g fun hb => by have j9 := hb; simp only [s6 j9]; exact (ld1 Tryd.isAgg45 (a9v.at1 (o := 4) (vs := [(vs a1O.a2o)]) (nb rfl) rfl))) ?_
 obtain ⟨c5T, b5K, h⟩ := h
 obtain ⟨g9q, g9r, b5K⟩ := d9b b5K
 refine a7 (Pu.g fun hb => by have j9 := hb; simp only [s6 j9]; exact (T0 (b5K hb).2.2.1 _ _ _ _ (b5K hb).1 (b5K hb).2.1)) ?_
 refine d6 (Ld.g fun hb => by have j9 := hb; simp only [s6 j9]; exact (ld1 (v := (vi c5T)) Tryd.isAgg2 (a9v.atH (b5K hb).2.2.2))) ?_
 refine a7 (Pu.g fun hb => by have j9 := hb; simp only [s6 j9]; exact (l0 _ _ _ _ _ _)) ?_
 refine a7 (P7 _ _) ?_
 exact hR (((((decide (b9h = 0)) && (decide (a1O.a4a = 2))) && (decide (a1O.a5B = 2))) && (decide ((a1O.a2o.n : Int) = 1))) && (decide (c5T = 3))) d0p _ a9v.drop.drop.drop h
theorem a7Q {H : Hp} {K : Bool → Hp → Prop} (h : V3 H K) : a3L H K := by
 intro w I
 refine f5d ?_
 refine a7v I (fun r0 H' w' I' hk => ⟨H', _, I', r0, rfl, rfl, hk⟩) h
def X3 (x0 : ByteArray) (H : Hp) (K : i4 → Hp → Prop) : Prop :=
 K (i4.mk 2 0 x0 (Sl.mk none 0 0)) H
theorem a7R (x0 : ByteArray) {K : i4 → Hp → Prop} (I : Inv w0 ps0 H0 H [] w) (hR : ∀ (r0 : i4) (H' : Hp) (w' : World) (_ : Inv w0 ps0 H0 H' [] w') (_ : K r0 H'), R (Value.agg (d5 r0).toArray) w') (h : X3 x0 H K) : F22 (Value.string x0) w R E := by
 unfold X3 at h
 unfold F22
 refine u6 I Tryd.zeroValue24 (cs := [(vi 0), (vi 0), (eS), (nS)]) rfl fun g_2 w_3 I_4 k_5 => ?_
 refine a7 (b3h _ _) ?_
 refine o7 I_4 Tryd.sizeOf24 (vs := [(vi 2), (vi 0), (Value.string x0), (nS)]) (cs' := [(vi 2), (vi 0), (Value.string x0), (nS)]) rfl rfl (nb rfl) rfl rfl fun w_6 I_7 k_8 => ?_
 refine a2G Tryd.isAgg24 Tryd.sizeOf24 rfl (I_7.at1 (o := 0) (vs := [(vi 2), (vi 0), (Value.string x0), (nS)]) (nb rfl) rfl) ?_
 exact hR (i4.mk 2 0 x0 (Sl.mk none 0 0)) H _ I_7.drop h
theorem a9w (x0 : ByteArray) {H : Hp} {K : i4 → Hp → Prop} (h : X3 x0 H K) : a3O x0 H K := by
 intro w I
 refine f5I ?_
 refine a7R x0 I (fun r0 H' w' I' hk => ⟨H', _, I', r0, rfl, rfl, hk⟩) h
def U4 (x0 : Int) (H : Hp) (K : i4 → Hp → Prop) : Prop :=
 (x0 < 0 →
 ∀ (s_7 : Sl) (a0i : Hp), Hle H a0i → SlH a0i 4 d5 s_7 [(i4.mk 1 (IntKind.wrap .i64 (0 - x0)) ⟨#[]⟩ (Sl.mk none 0 0))] → s_7.n ≤ s_7.c →
 K (i4.mk 5 0 ⟨#[]⟩ s_7) a0i) ∧
 (¬ (x0 < 0) →
 K (i4.mk 1 x0 ⟨#[]⟩ (Sl.mk none 0 0)) H)
theorem a7f (x0 : Int) {K : i4 → Hp → Prop} (I : Inv w0 ps0 H0 H [] w) (hR : ∀ (r0 : i4) (H' : Hp) (w' : World) (_ : Inv w0 ps0 H0 H' [] w') (_ : K r0 H'), R (Value.agg (d5 r0).toArray) w') (h : U4 x0 H K) : F23 (vi x0) w R E := by
 unfold U4 at h
 unfold F23
 refine u6 I Tryd.zeroValue24 (cs := [(vi 0), (vi 0), (eS), (nS)]) rfl fun g_2 w_3 I_4 k_5 => ?_
 refine a7 (C5 _ _ _ _ _ _) ?_
 refine j7 (fun b6M => ?_) (fun b6M => ?_)
 ·replace h := h.1 b6M
  refine a7 (c2q _ _) ?_
  refine a7 (a4T _ _) ?_
  refine U6 (e := 24) (c := d5) (xs := [(i4.mk 1 (IntKind.wrap .i64 (0 - x0)) ⟨#[]⟩ (Sl.mk none 0 0))]) I_4 (b5b _ _ _ _ _ _) rfl rfl a0S a0T (nb rfl) fun s_7 F_8 w_9 b7e a3U b6G => ?_
  refine a7 (a7l _ _ _ _) ?_
  refine o7 (a3U.bring 1) Tryd.sizeOf24 (vs := [(vi 5), (vi 0), (eS), (vs s_7)]) (cs' := [(vi 5), (vi 0), (eS), (vs s_7)]) rfl rfl (nb rfl) rfl rfl fun a0I N5 a1T => ?_
  refine a2G Tryd.isAgg24 Tryd.sizeOf24 rfl (N5.at1 (o := 0) (vs := [(vi 5), (vi 0), (eS), (vs s_7)]) (nb rfl) rfl) ?_
  obtain ⟨a0i, c0g, g5Z, c5U, b7r⟩ := Inv.freezeC (N5.bring 1) b7e (by decide)
  replace h := h s_7 a0i g5Z c5U b7r
  exact hR (i4.mk 5 0 ⟨#[]⟩ s_7) a0i _ c0g.drop h
 ·replace h := h.2 b6M
  refine a7 (a4T _ _) ?_
  refine o7 I_4 Tryd.sizeOf24 (vs := [(vi 1), (vi x0), (eS), (nS)]) (cs' := [(vi 1), (vi x0), (eS), (nS)]) rfl rfl (nb rfl) rfl rfl fun a2k c0a g4e => ?_
  refine a2G Tryd.isAgg24 Tryd.sizeOf24 rfl (c0a.at1 (o := 0) (vs := [(vi 1), (vi x0), (eS), (nS)]) (nb rfl) rfl) ?_
  exact hR (i4.mk 1 x0 ⟨#[]⟩ (Sl.mk none 0 0)) H _ c0a.drop h
theorem a7w (x0 : Int) {H : Hp} {K : i4 → Hp → Prop} (h : U4 x0 H K) : a3z x0 H K := by
 intro w I
 refine f5K ?_
 refine a7f x0 I (fun r0 H' w' I' hk => ⟨H', _, I', r0, rfl, rfl, hk⟩) h
def Z2 (x0 : Int) (x1 : i4) (x2 : i4) (H : Hp) (K : o8 → Hp → Prop) : Prop :=
 ∀ (S2 : Sl) (a4K : Hp), Hle H a4K → SlH a4K 4 d5 S2 [x1, x2] → S2.n ≤ S2.c →
 K (o8.mk 3 x0 S2 (Sl.mk none 0 0)) a4K
theorem a9x (x0 : Int) (x1 : i4) (x2 : i4) {K : o8 → Hp → Prop} (I : Inv w0 ps0 H0 H [] w) (hR : ∀ (r0 : o8) (H' : Hp) (w' : World) (_ : Inv w0 ps0 H0 H' [] w') (_ : K r0 H'), R (Value.agg (g8 r0).toArray) w') (h : Z2 x0 x1 x2 H K) : F21 (vi x0) (Value.agg (d5 x1).toArray) (Value.agg (d5 x2).toArray) w R E := by
 unfold Z2 at h
 unfold F21
 refine M5 I (cs := (d5 x1)) rfl fun g_2 w_3 I_4 k_5 => ?_
 refine M5 I_4 (cs := (d5 x2)) rfl fun g_7 w_8 I_9 c3Q => ?_
 refine u6 I_9 Tryd.zeroValue27 (cs := [(vi 0), (vi 0), (nS), (nS)]) rfl fun g6a a0I N5 a1T => ?_
 refine d6 (ldA Tryd.isAgg24 Tryd.sizeOf24 rfl ((N5.bring 2).at1 (o := 0) (vs := (d5 x1)) (nb rfl) rfl)) ?_
 refine d6 (ldA Tryd.isAgg24 Tryd.sizeOf24 rfl ((N5.bring 1).at1 (o := 0) (vs := (d5 x2)) (nb rfl) rfl)) ?_
 refine U6 (e := 24) (c := d5) (xs := [x1, x2]) N5 (b9y _ _ _ _ _ _ _ _ _ _ _ _) rfl rfl a0S a0T (nb rfl) fun S2 f8i a2U b7r a6m c0c => ?_
 refine a7 (b7Q _ _ _ _ _) ?_
 refine o7 (a6m.bring 1) Tryd.sizeOf27 (vs := [(vi 3), (vi x0), (vs S2), (nS)]) (cs' := [(vi 3), (vi x0), (vs S2), (nS)]) rfl rfl (nb rfl) rfl rfl fun a3F b0E f0W => ?_
 refine a2G Tryd.isAgg27 Tryd.sizeOf27 rfl (b0E.at1 (o := 0) (vs := [(vi 3), (vi x0), (vs S2), (nS)]) (nb rfl) rfl) ?_
 obtain ⟨a4K, b2A, b6O, a5h, b6L⟩ := Inv.freezeC (b0E.bring 1) b7r (by decide)
 replace h := h S2 a4K b6O a5h b6L
 exact hR (o8.mk 3 x0 S2 (Sl.mk none 0 0)) a4K _ b2A.drop.drop.drop h
theorem a9R (x0 : Int) (x1 : i4) (x2 : i4) {H : Hp} {K : o8 → Hp → Prop} (h : Z2 x0 x1 x2 H K) : a4D x0 x1 x2 H K := by
 intro w I
 refine f5G ?_
 refine a9x x0 x1 x2 I (fun r0 H' w' I' hk => ⟨H', _, I', r0, rfl, rfl, hk⟩) h
def Z3 (x0 : Int) (x1 : i4) (x2 : i4) (H : Hp) (K : i4 → Hp → Prop) : Prop :=
 ∀ (S2 : Sl) (a4K : Hp), Hle H a4K → SlH a4K 4 d5 S2 [x1, x2] → S2.n ≤ S2.c →
 K (i4.mk x0 0 ⟨#[]⟩ S2) a4K
theorem a9y (x0 : Int) (x1 : i4) (x2 : i4) {K : i4 → Hp → Prop} (I : Inv w0 ps0 H0 H [] w) (hR : ∀ (r0 : i4) (H' : Hp) (w' : World) (_ : Inv w0 ps0 H0 H' [] w') (_ : K r0 H'), R (Value.agg (d5 r0).toArray) w') (h : Z3 x0 x1 x2 H K) : F25 (vi x0) (Value.agg (d5 x1).toArray) (Value.agg (d5 x2).toArray) w R E := by
 unfold Z3 at h
 unfold F25
 refine M5 I (cs := (d5 x1)) rfl fun g_2 w_3 I_4 k_5 => ?_
 refine M5 I_4 (cs := (d5 x2)) rfl fun g_7 w_8 I_9 c3Q => ?_
 refine u6 I_9 Tryd.zeroValue24 (cs := [(vi 0), (vi 0), (eS), (nS)]) rfl fun g6a a0I N5 a1T => ?_
 refine d6 (ldA Tryd.isAgg24 Tryd.sizeOf24 rfl ((N5.bring 2).at1 (o := 0) (vs := (d5 x1)) (nb rfl) rfl)) ?_
 refine d6 (ldA Tryd.isAgg24 Tryd.sizeOf24 rfl ((N5.bring 1).at1 (o := 0) (vs := (d5 x2)) (nb rfl) rfl)) ?_
 refine U6 (e := 24) (c := d5) (xs := [x1, x2]) N5 (b9y _ _ _ _ _ _ _ _ _ _ _ _) rfl rfl a0S a0T (nb rfl) fun S2 f8i a2U b7r a6m c0c => ?_
 refine a7 (a7l _ _ _ _) ?_
 refine o7 (a6m.bring 1) Tryd.sizeOf24 (vs := [(vi x0), (vi 0), (eS), (vs S2)]) (cs' := [(vi x0), (vi 0), (eS), (vs S2)]) rfl rfl (nb rfl) rfl rfl fun a3F b0E f0W => ?_
 refine a2G Tryd.isAgg24 Tryd.sizeOf24 rfl (b0E.at1 (o := 0) (vs := [(vi x0), (vi 0), (eS), (vs S2)]) (nb rfl) rfl) ?_
 obtain ⟨a4K, b2A, b6O, a5h, b6L⟩ := Inv.freezeC (b0E.bring 1) b7r (by decide)
 replace h := h S2 a4K b6O a5h b6L
 exact hR (i4.mk x0 0 ⟨#[]⟩ S2) a4K _ b2A.drop.drop.drop h
theorem a9S (x0 : Int) (x1 : i4) (x2 : i4) {H : Hp} {K : i4 → Hp → Prop} (h : Z3 x0 x1 x2 H K) : a4E x0 x1 x2 H K := by
 intro w I
 refine f5O ?_
 refine a9y x0 x1 x2 I (fun r0 H' w' I' hk => ⟨H', _, I', r0, rfl, rfl, hk⟩) h
def X4 (x0 : ByteArray) (x1 : i4) (H : Hp) (K : p6 → Hp → Prop) : Prop :=
 ∀ (b0M : Sl) (c0M : Hp), Hle H c0M → SlH c0M 4 d5 b0M [x1] → b0M.n ≤ b0M.c →
 K (p6.mk 1 x0 b0M (Sl.mk none 0 0) (Sl.mk none 0 0) (Sl.mk none 0 0)) c0M
theorem a7S (x0 : ByteArray) (x1 : i4) {K : p6 → Hp → Prop} (I : Inv w0 ps0 H0 H [] w) (hR : ∀ (r0 : p6) (H' : Hp) (w' : World) (_ : Inv w0 ps0 H0 H' [] w') (_ : K r0 H'), R (Value.agg (i5 r0).toArray) w') (h : X4 x0 x1 H K) : F24 (Value.string x0) (Value.agg (d5 x1).toArray) w R E := by
 unfold X4 at h
 unfold F24
 refine M5 I (cs := (d5 x1)) rfl fun g_2 w_3 I_4 k_5 => ?_
 refine u6 I_4 Tryd.zeroValue63 (cs := [(vi 0), (eS), (nS), (nS), (nS), (nS)]) rfl fun g_7 w_8 I_9 c3Q => ?_
 refine d6 (ldA Tryd.isAgg24 Tryd.sizeOf24 rfl ((I_9.bring 1).at1 (o := 0) (vs := (d5 x1)) (nb rfl) rfl)) ?_
 refine U6 (e := 24) (c := d5) (xs := [x1]) I_9 (b5b _ _ _ _ _ _) rfl rfl a0S a0T (nb rfl) fun b0M d4H o9 g6b g6c g9s => ?_
 refine a7 (a5E _ _ _ _ _) ?_
 refine o7 (g6c.bring 1) Tryd.sizeOf63 (vs := [(vi 1), (Value.string x0), (vs b0M), (nS), (nS), (nS)]) (cs' := [(vi 1), (Value.string x0), (vs b0M), (nS), (nS), (nS)]) rfl rfl (nb rfl) rfl rfl fun r7 a6d b6K => ?_
 refine a2G Tryd.isAgg63 Tryd.sizeOf63 rfl (a6d.at1 (o := 0) (vs := [(vi 1), (Value.string x0), (vs b0M), (nS), (nS), (nS)]) (nb rfl) rfl) ?_
 obtain ⟨c0M, c0a, c0h, c4n, b6Y⟩ := Inv.freezeC (a6d.bring 1) g6b (by decide)
 replace h := h b0M c0M c0h c4n b6Y
 exact hR (p6.mk 1 x0 b0M (Sl.mk none 0 0) (Sl.mk none 0 0) (Sl.mk none 0 0)) c0M _ c0a.drop.drop h
theorem a9z (x0 : ByteArray) (x1 : i4) {H : Hp} {K : p6 → Hp → Prop} (h : X4 x0 x1 H K) : a3P x0 x1 H K := by
 intro w I
 refine f5M ?_
 refine a7S x0 x1 I (fun r0 H' w' I' hk => ⟨H', _, I', r0, rfl, rfl, hk⟩) h
def a2M (x0 : i4) (H : Hp) (K : Int → Bool → Hp → Prop) : Prop :=
 (x0.d9 = 1 →
 K x0.K2 true H) ∧
 (¬ (x0.d9 = 1) →
 ∃ x_6 : i4, ((decide (x0.d9 = 5)) = true → (0 : Int) ≤ 0 ∧ (0 : Int) < x0.A7.n ∧ EltH H x0.A7 0 4 (d5 x_6)) ∧
 (((decide (x0.d9 = 5)) && (decide (x_6.d9 = 1))) = true →
 (0 : Int) ≤ 0 ∧ (0 : Int) < x0.A7.n ∧ ∃ b4q : i4, EltH H x0.A7 0 4 (d5 b4q) ∧
 K (IntKind.wrap .i64 (0 - b4q.K2)) true H) ∧
 (((decide (x0.d9 = 5)) && (decide (x_6.d9 = 1))) = false →
 K 0 false H))
theorem b0N (x0 : i4) {K : Int → Bool → Hp → Prop} (I : Inv w0 ps0 H0 H [] w) (hR : ∀ (r0 : Int) (r1 : Bool) (H' : Hp) (w' : World) (_ : Inv w0 ps0 H0 H' [] w') (_ : K r0 r1 H'), R (Value.tuple #[(vi r0), (vB r1)]) w') (h : a2M x0 H K) : d0n (Value.agg (d5 x0).toArray) w R E := by
 unfold a2M at h
 unfold d0n
 refine M5 I (cs := (d5 x0)) rfl fun g_2 w_3 I_4 k_5 => ?_
 refine a7 W0 ?_
 refine d6 (ld1 Tryd.isAgg3 (I_4.at1 (o := 0) (vs := [(vi x0.d9)]) (nb rfl) rfl)) ?_
 refine a7 (l0 _ _ _ _ _ _) ?_
 refine j7 (fun a8T => ?_) (fun a8T => ?_)
 ·replace h := h.1 a8T
  refine a7 a7A ?_
  refine d6 (ld1 Tryd.isAgg2 (I_4.at1 (o := 1) (vs := [(vi x0.K2)]) (nb rfl) rfl)) ?_
  exact hR x0.K2 true H _ I_4.drop h
 ·replace h := h.2 a8T
  refine a7 W0 ?_
  refine d6 (ld1 Tryd.isAgg3 (I_4.at1 (o := 0) (vs := [(vi x0.d9)]) (nb rfl) rfl)) ?_
  refine a7 (l0 _ _ _ _ _ _) ?_
  refine a7 (Pu.g fun hb => by have j9 := hb; exact a4e) ?_
  refine d6 (Ld.g fun hb => by have j9 := hb; simp only [s6 j9]; exact (ld1 Tryd.isAgg22 (I_4.at1 (o := 3) (vs := [(vs x0.A7)]) (nb rfl) rfl))) ?_
  obtain ⟨x_6, b4I, h⟩ := h
  obtain ⟨g_7, o_8, b4I⟩ := d9b b4I
  refine a7 (Pu.g fun hb => by have j9 := hb; simp only [s6 j9]; exact (a1D (b4I hb).2.2.1 _ _ _ _ (b4I hb).1 (b4I hb).2.1)) ?_
  refine a7 (Pu.g fun hb => by have j9 := hb; simp only [s6 j9]; exact W0) ?_
  refine d6 (Ld.g fun hb => by have j9 := hb; simp only [s6 j9]; exact (ld1 (v := (vi x_6.d9)) Tryd.isAgg3 ((I_4.atH (b4I hb).2.2.2).sub (k := 0) (n := 1) (nb rfl)))) ?_
  refine a7 (Pu.g fun hb => by have j9 := hb; simp only [s6 j9]; exact (l0 _ _ _ _ _ _)) ?_
  refine a7 (P7 _ _) ?_
  refine p5 (fun a5i => ?_) (fun a5i => ?_)
  ·replace h := h.1 a5i
   refine a7 a4e ?_
   refine d6 (ld1 Tryd.isAgg22 (I_4.at1 (o := 3) (vs := [(vs x0.A7)]) (nb rfl) rfl)) ?_
   obtain ⟨g6d, g6e, b4q, c5U, h⟩ := h
   obtain ⟨g9t, g9u, d8h, c5U⟩ := c5U
   refine a7 (a1D d8h _ _ _ _ g6d g6e) ?_
   refine a7 a7A ?_
   refine d6 (ld1 (v := (vi b4q.K2)) Tryd.isAgg2 ((I_4.atH c5U).sub (k := 1) (n := 1) (nb rfl))) ?_
   refine a7 (c2q _ _) ?_
   exact hR (IntKind.wrap .i64 (0 - b4q.K2)) true H _ I_4.drop h
  ·replace h := h.2 a5i
   exact hR 0 false H _ I_4.drop h
theorem b1u (x0 : i4) {H : Hp} {K : Int → Bool → Hp → Prop} (h : a2M x0 H K) : a5u x0 H K := by
 intro w I
 refine e5M ?_
 refine b0N x0 I (fun r0 r1 H' w' I' hk => ⟨H', _, I', r0, r1, rfl, rfl, hk⟩) h
end Go.Proofs.YtnhkdkcgdcgmdaaDoor
