/- Typed formulas of the program's functions that few laws need; printed by lift.py off the code. -/
import Derived.Test.YtnhkdkcgdcgmdaaDoorzLV1
import Derived.Test.YtnhkdkcgdcgmdaaDoorzLG1s
namespace Go.Proofs.YtnhkdkcgdcgmdaaDoor
open Go.RowKit
set_option maxRecDepth 100000
set_option maxHeartbeats 2000000
variable {w0 w : World} {ps0 : Nat → Prop} {H0 H : Hp} {R : RT} {E : Pan}
def U0 (H : Hp) (K : Bool → Hp → Prop) : Prop :=
 ∀ (s_2 : Sl) (b2p : Hp), Hle H b2p → SlH b2p 4 b6 s_2 [(d8.mk 2 0 ⟨#[120]⟩ (Sl.mk none 0 0)), (d8.mk 1 2 ⟨#[]⟩ (Sl.mk none 0 0))] → s_2.n ≤ s_2.c →
 ∀ (b6N : Sl) (c4N : Hp), Hle b2p c4N → SlH c4N 4 b6 b6N [(d8.mk 1 1 ⟨#[]⟩ (Sl.mk none 0 0))] → b6N.n ≤ b6N.c →
 ∀ (b6O : Sl) (b1P : Hp), Hle c4N b1P → SlH b1P 4 b6 b6O [(d8.mk 6 0 ⟨#[]⟩ s_2)] → b6O.n ≤ b6O.c →
 ∀ (R0 : Sl) (c4O : Hp), Hle b1P c4O → SlH c4O 2 m4 R0 [(j7.mk ⟨#[120]⟩ 0)] → R0.n ≤ R0.c →
 ∀ (a8H : Sl) (a1O : Hp), Hle c4O a1O → SlH a1O 6 d9 a8H [(o0.mk 1 ⟨#[120]⟩ b6N (Sl.mk none 0 0) (Sl.mk none 0 0) (Sl.mk none 0 0)), (o0.mk 1 ⟨#[120]⟩ b6O (Sl.mk none 0 0) (Sl.mk none 0 0) (Sl.mk none 0 0))] → a8H.n ≤ a8H.c →
 a4I (B0.mk R0 a8H) (Sl.mk none 0 0) 9 a1O (fun (a1s : N3) (b8C : Int) (c8Q : Hp) =>
 ∃ c4P : Int, (((((decide (b8C = 0)) && (decide (a1s.a0Z = 2))) && (decide (a1s.a4o = 2))) && (decide ((a1s.W7.n : Int) = 1))) = true → (0 : Int) ≤ 0 ∧ (0 : Int) < a1s.W7.n ∧ EltH c8Q a1s.W7 0 1 [(vi c4P)]) ∧
 K (((((decide (b8C = 0)) && (decide (a1s.a0Z = 2))) && (decide (a1s.a4o = 2))) && (decide ((a1s.W7.n : Int) = 1))) && (decide (c4P = 3))) c8Q)
theorem a6Z {K : Bool → Hp → Prop} (I : Inv w0 ps0 H0 H [] w) (hR : ∀ (r0 : Bool) (H' : Hp) (w' : World) (_ : Inv w0 ps0 H0 H' [] w') (_ : K r0 H'), R (vB r0) w') (h : U0 H K) : F17 w R E := by
 unfold U0 at h
 unfold F17
 refine a7 (b2E _ _) ?_
 refine a7 (a4w _ _) ?_
 refine U3 (e := 24) (c := b6) (xs := [(d8.mk 2 0 ⟨#[120]⟩ (Sl.mk none 0 0)), (d8.mk 1 2 ⟨#[]⟩ (Sl.mk none 0 0))]) I (b8T _ _ _ _ _ _ _ _ _ _ _ _) rfl rfl a0t a0u (nb rfl) fun s_2 F_3 w_4 h_5 I_6 k_7 => ?_
 refine a7 (a6Q _ _ _ _) ?_
 refine z7 I_6 Tryd.zeroValue24 (cs := [(vi 0), (vi 0), (eS), (nS)]) rfl fun g_9 m8 a3x b6e => ?_
 refine m9 a3x Tryd.sizeOf24 (vs := [(vi 6), (vi 0), (eS), (vs s_2)]) (cs' := [(vi 6), (vi 0), (eS), (vs s_2)]) rfl rfl (nb rfl) rfl rfl fun Y6 M6 a1z => ?_
 refine a7 (b5B _) ?_
 refine U3 (e := 58) (c := m4) (xs := [(j7.mk ⟨#[120]⟩ 0)]) M6 (c5M _ _) rfl rfl b2B b2C (nb rfl) fun R0 f6c a2z b6P a5O b9x => ?_
 refine a7 (a4w _ _) ?_
 refine U3 (e := 24) (c := b6) (xs := [(d8.mk 1 1 ⟨#[]⟩ (Sl.mk none 0 0))]) a5O (b4B _ _ _ _ _ _) rfl rfl a0t a0u (nb rfl) fun b6N g7r A7 d4Q a8l d4v => ?_
 refine a7 (a5h _ _ _ _ _) ?_
 refine b8 (ldA Tryd.isAgg24 Tryd.sizeOf24 rfl ((a8l.bring 2).at1 (o := 0) (vs := [(vi 6), (vi 0), (eS), (vs s_2)]) (nb rfl) rfl)) ?_
 obtain ⟨b2p, b5Y, e8V, g3F, d4q⟩ := Inv.freezeC (a8l.bring 3) h_5 (by decide)
 replace h := h s_2 b2p e8V g3F d4q
 refine U3 (e := 24) (c := b6) (xs := [(d8.mk 6 0 ⟨#[]⟩ s_2)]) b5Y (b4B _ _ _ _ _ _) rfl rfl a0t a0u (nb rfl) fun b6O g7s D9 d4k a5V e8O => ?_
 refine a7 (a5h _ _ _ _ _) ?_
 obtain ⟨c4N, g3G, g3H, f6d, g3I⟩ := Inv.freezeC (a5V.bring 1) d4Q (by decide)
 replace h := h b6N c4N g3H f6d g3I
 obtain ⟨b1P, g3J, g3K, g3L, d3C⟩ := Inv.freezeC g3G d4k (by decide)
 replace h := h b6O b1P g3K g3L d3C
 refine U3 (e := 63) (c := d9) (xs := [(o0.mk 1 ⟨#[120]⟩ b6N (Sl.mk none 0 0) (Sl.mk none 0 0) (Sl.mk none 0 0)), (o0.mk 1 ⟨#[120]⟩ b6O (Sl.mk none 0 0) (Sl.mk none 0 0) (Sl.mk none 0 0))]) g3J (d8S _ _ _ _ _ _ _ _ _ _ _ _ _ _ _ _ _ _ _ _ _ _ _ _ _ _ _ _) rfl rfl a6O a6P (nb rfl) fun a8H g2Q b1U d4g c7R g2R => ?_
 refine a7 (b2D _ _ _ _ _ _) ?_
 refine z7 c7R Tryd.zeroValue44 (cs := [(nS), (nS)]) rfl fun g3M c7S d6P g3N => ?_
 refine m9 d6P Tryd.sizeOf44 (vs := [(vs R0), (vs a8H)]) (cs' := [(vs R0), (vs a8H)]) rfl rfl (nb rfl) rfl rfl fun N0 f6e g7t => ?_
 refine b8 (ldA Tryd.isAgg44 Tryd.sizeOf44 rfl (f6e.at1 (o := 0) (vs := [(vs R0), (vs a8H)]) (nb rfl) rfl)) ?_
 obtain ⟨c4O, b3C, g3O, g3P, g3Q⟩ := Inv.freezeC (f6e.bring 2) b6P (by decide)
 replace h := h R0 c4O g3O g3P g3Q
 obtain ⟨a1O, d6Q, g3R, g3S, g3T⟩ := Inv.freezeC (b3C.bring 1) d4g (by decide)
 replace h := h a8H a1O g3R g3S g3T
 refine d5 (cap := []) (fun args w => Tryd.call18 args w) ?_
 refine m5 (Fi := []) (Fr := [bx g3M 44 [(vs R0), (vs a8H)], bx g_9 24 [(vi 6), (vi 0), (eS), (vs s_2)]]) d6Q (h) (fun g7u c8Q g7v N4 g3U g7w g7x g3V => ?_) (fun _ _ _ _ _ q => q.elim)
 obtain ⟨a1s, b8C, rfl, rfl, h⟩ := g3V
 refine a7 (m6 _ _ _ rfl) ?_
 refine a7 (m6 _ _ (vi b8C) rfl) ?_
 refine z7 g3U Tryd.zeroValue49 (cs := [(vi 0), (vi 0), (vi 0), (nS), (nS), (nS)]) rfl fun g7y N5 g3W g7z => ?_
 refine m9 g3W Tryd.sizeOf49 (vs := (p9 a1s)) (cs' := (p9 a1s)) rfl rfl (nb rfl) rfl rfl fun b4a a6h g3X => ?_
 refine a7 (i8 _ _ _ _ _ _) ?_
 refine a7 (Pu.g fun hb => by have g7 := hb; exact b1j) ?_
 refine b8 (Ld.g fun hb => by have g7 := hb; simp only [o7 g7]; exact (ld1 Tryd.isAgg3 (a6h.at1 (o := 0) (vs := [(vi a1s.a0Z)]) (nb rfl) rfl))) ?_
 refine a7 (Pu.g fun hb => by have g7 := hb; simp only [o7 g7]; exact (i8 _ _ _ _ _ _)) ?_
 refine a7 (O7 _ _) ?_
 refine a7 (Pu.g fun hb => by have g7 := hb; exact b7m) ?_
 refine b8 (Ld.g fun hb => by have g7 := hb; simp only [o7 g7]; exact (ld1 Tryd.isAgg3 (a6h.at1 (o := 2) (vs := [(vi a1s.a4o)]) (nb rfl) rfl))) ?_
 refine a7 (Pu.g fun hb => by have g7 := hb; simp only [o7 g7]; exact (i8 _ _ _ _ _ _)) ?_
 refine a7 (O7 _ _) ?_
 refine a7 (Pu.g fun hb => by have g7 := hb; exact a3H) ?_
 refine b8 (Ld.g fun hb => by have g7 := hb; simp only [o7 g7]; exact (ld1 Tryd.isAgg45 (a6h.at1 (o := 4) (vs := [(vs a1s.W7)]) (nb rfl) rfl))) ?_
 refine a7 (Pu.g fun hb => by have g7 := hb; simp only [o7 g7]; exact (a6B _ _ _)) ?_
 refine a7 (Pu.g fun hb => by have g7 := hb; simp only [o7 g7]; exact (i8 _ _ _ _ _ _)) ?_
 refine a7 (O7 _ _) ?_
 refine a7 (Pu.g fun hb => by have g7 := hb; exact a3H) ?_
 refine b8 (Ld.g fun hb => by have g7 := hb; simp only [o7 g7]; exact (ld1 Tryd.isAgg45 (a6h.at1 (o := 4) (vs := [(vs a1s.W7)]) (nb rfl) rfl))) ?_
 obtain ⟨c4P, b5g, h⟩ := h
 obtain ⟨g7A, g7B, b5g⟩ := c6M b5g
 refine a7 (Pu.g fun hb => by have g7 := hb; simp only [o7 g7]; exact (R7 (b5g hb).2.2.1 _ _ _ _ (b5g hb).1 (b5g hb).2.1)) ?_
 refine b8 (Ld.g fun hb => by have g7 := hb; simp only [o7 g7]; exact (ld1 (v := (vi c4P)) Tryd.isAgg2 (a6h.atH (b5g hb).2.2.2))) ?_
 refine a7 (Pu.g fun hb => by have g7 := hb; simp only [o7 g7]; exact (i8 _ _ _ _ _ _)) ?_
 refine a7 (O7 _ _) ?_
 exact hR (((((decide (b8C = 0)) && (decide (a1s.a0Z = 2))) && (decide (a1s.a4o = 2))) && (decide ((a1s.W7.n : Int) = 1))) && (decide (c4P = 3))) c8Q _ a6h.drop.drop.drop h
theorem a7u {H : Hp} {K : Bool → Hp → Prop} (h : U0 H K) : a0N H K := by
 intro w I
 refine f2X ?_
 refine a6Z I (fun r0 H' w' I' hk => ⟨H', _, I', r0, rfl, rfl, hk⟩) h
def V9 (x0 : ByteArray) (H : Hp) (K : d8 → Hp → Prop) : Prop :=
 K (d8.mk 2 0 x0 (Sl.mk none 0 0)) H
theorem a7v (x0 : ByteArray) {K : d8 → Hp → Prop} (I : Inv w0 ps0 H0 H [] w) (hR : ∀ (r0 : d8) (H' : Hp) (w' : World) (_ : Inv w0 ps0 H0 H' [] w') (_ : K r0 H'), R (Value.agg (b6 r0).toArray) w') (h : V9 x0 H K) : F22 (Value.string x0) w R E := by
 unfold V9 at h
 unfold F22
 refine z7 I Tryd.zeroValue24 (cs := [(vi 0), (vi 0), (eS), (nS)]) rfl fun g_2 w_3 I_4 k_5 => ?_
 refine a7 (b2E _ _) ?_
 refine m9 I_4 Tryd.sizeOf24 (vs := [(vi 2), (vi 0), (Value.string x0), (nS)]) (cs' := [(vi 2), (vi 0), (Value.string x0), (nS)]) rfl rfl (nb rfl) rfl rfl fun w_6 I_7 k_8 => ?_
 refine a2j Tryd.isAgg24 Tryd.sizeOf24 rfl (I_7.at1 (o := 0) (vs := [(vi 2), (vi 0), (Value.string x0), (nS)]) (nb rfl) rfl) ?_
 exact hR (d8.mk 2 0 x0 (Sl.mk none 0 0)) H _ I_7.drop h
theorem a9a (x0 : ByteArray) {H : Hp} {K : d8 → Hp → Prop} (h : V9 x0 H K) : U9 x0 H K := by
 intro w I
 refine f3C ?_
 refine a7v x0 I (fun r0 H' w' I' hk => ⟨H', _, I', r0, rfl, rfl, hk⟩) h
def T1 (x0 : Int) (H : Hp) (K : d8 → Hp → Prop) : Prop :=
 (x0 < 0 →
 ∀ (s_7 : Sl) (Z0 : Hp), Hle H Z0 → SlH Z0 4 b6 s_7 [(d8.mk 1 (IntKind.wrap .i64 (0 - x0)) ⟨#[]⟩ (Sl.mk none 0 0))] → s_7.n ≤ s_7.c →
 K (d8.mk 5 0 ⟨#[]⟩ s_7) Z0) ∧
 (¬ (x0 < 0) →
 K (d8.mk 1 x0 ⟨#[]⟩ (Sl.mk none 0 0)) H)
theorem a6L (x0 : Int) {K : d8 → Hp → Prop} (I : Inv w0 ps0 H0 H [] w) (hR : ∀ (r0 : d8) (H' : Hp) (w' : World) (_ : Inv w0 ps0 H0 H' [] w') (_ : K r0 H'), R (Value.agg (b6 r0).toArray) w') (h : T1 x0 H K) : F23 (vi x0) w R E := by
 unfold T1 at h
 unfold F23
 refine z7 I Tryd.zeroValue24 (cs := [(vi 0), (vi 0), (eS), (nS)]) rfl fun g_2 w_3 I_4 k_5 => ?_
 refine a7 (B8 _ _ _ _ _ _) ?_
 refine i4 (fun b6l => ?_) (fun b6l => ?_)
 ·replace h := h.1 b6l
  refine a7 (c1y _ _) ?_
  refine a7 (a4w _ _) ?_
  refine U3 (e := 24) (c := b6) (xs := [(d8.mk 1 (IntKind.wrap .i64 (0 - x0)) ⟨#[]⟩ (Sl.mk none 0 0))]) I_4 (b4B _ _ _ _ _ _) rfl rfl a0t a0u (nb rfl) fun s_7 F_8 w_9 b6D a3x b6e => ?_
  refine a7 (a6Q _ _ _ _) ?_
  refine m9 (a3x.bring 1) Tryd.sizeOf24 (vs := [(vi 5), (vi 0), (eS), (vs s_7)]) (cs' := [(vi 5), (vi 0), (eS), (vs s_7)]) rfl rfl (nb rfl) rfl rfl fun Y6 M6 a1z => ?_
  refine a2j Tryd.isAgg24 Tryd.sizeOf24 rfl (M6.at1 (o := 0) (vs := [(vi 5), (vi 0), (eS), (vs s_7)]) (nb rfl) rfl) ?_
  obtain ⟨Z0, b9A, g3Y, c4Q, b6P⟩ := Inv.freezeC (M6.bring 1) b6D (by decide)
  replace h := h s_7 Z0 g3Y c4Q b6P
  exact hR (d8.mk 5 0 ⟨#[]⟩ s_7) Z0 _ b9A.drop h
 ·replace h := h.2 b6l
  refine a7 (a4w _ _) ?_
  refine m9 I_4 Tryd.sizeOf24 (vs := [(vi 1), (vi x0), (eS), (nS)]) (cs' := [(vi 1), (vi x0), (eS), (nS)]) rfl rfl (nb rfl) rfl rfl fun a1N b9v g1X => ?_
  refine a2j Tryd.isAgg24 Tryd.sizeOf24 rfl (b9v.at1 (o := 0) (vs := [(vi 1), (vi x0), (eS), (nS)]) (nb rfl) rfl) ?_
  exact hR (d8.mk 1 x0 ⟨#[]⟩ (Sl.mk none 0 0)) H _ b9v.drop h
theorem a7a (x0 : Int) {H : Hp} {K : d8 → Hp → Prop} (h : T1 x0 H K) : S9 x0 H K := by
 intro w I
 refine f3E ?_
 refine a6L x0 I (fun r0 H' w' I' hk => ⟨H', _, I', r0, rfl, rfl, hk⟩) h
def X9 (x0 : Int) (x1 : d8) (x2 : d8) (H : Hp) (K : o9 → Hp → Prop) : Prop :=
 ∀ (R0 : Sl) (a2P : Hp), Hle H a2P → SlH a2P 4 b6 R0 [x1, x2] → R0.n ≤ R0.c →
 K (o9.mk 3 x0 R0 (Sl.mk none 0 0)) a2P
theorem a9b (x0 : Int) (x1 : d8) (x2 : d8) {K : o9 → Hp → Prop} (I : Inv w0 ps0 H0 H [] w) (hR : ∀ (r0 : o9) (H' : Hp) (w' : World) (_ : Inv w0 ps0 H0 H' [] w') (_ : K r0 H'), R (Value.agg (i5 r0).toArray) w') (h : X9 x0 x1 x2 H K) : F21 (vi x0) (Value.agg (b6 x1).toArray) (Value.agg (b6 x2).toArray) w R E := by
 unfold X9 at h
 unfold F21
 refine L8 I (cs := (b6 x1)) rfl fun g_2 w_3 I_4 k_5 => ?_
 refine L8 I_4 (cs := (b6 x2)) rfl fun g_7 w_8 I_9 c2T => ?_
 refine z7 I_9 Tryd.zeroValue27 (cs := [(vi 0), (vi 0), (nS), (nS)]) rfl fun g3Z Y6 M6 a1z => ?_
 refine b8 (ldA Tryd.isAgg24 Tryd.sizeOf24 rfl ((M6.bring 2).at1 (o := 0) (vs := (b6 x1)) (nb rfl) rfl)) ?_
 refine b8 (ldA Tryd.isAgg24 Tryd.sizeOf24 rfl ((M6.bring 1).at1 (o := 0) (vs := (b6 x2)) (nb rfl) rfl)) ?_
 refine U3 (e := 24) (c := b6) (xs := [x1, x2]) M6 (b8T _ _ _ _ _ _ _ _ _ _ _ _) rfl rfl a0t a0u (nb rfl) fun R0 f6c a2z b6P a5O b9x => ?_
 refine a7 (b7p _ _ _ _ _) ?_
 refine m9 (a5O.bring 1) Tryd.sizeOf27 (vs := [(vi 3), (vi x0), (vs R0), (nS)]) (cs' := [(vi 3), (vi x0), (vs R0), (nS)]) rfl rfl (nb rfl) rfl rfl fun a3l b0h e8W => ?_
 refine a2j Tryd.isAgg27 Tryd.sizeOf27 rfl (b0h.at1 (o := 0) (vs := [(vi 3), (vi x0), (vs R0), (nS)]) (nb rfl) rfl) ?_
 obtain ⟨a2P, b2a, b6n, a4M, b6j⟩ := Inv.freezeC (b0h.bring 1) b6P (by decide)
 replace h := h R0 a2P b6n a4M b6j
 exact hR (o9.mk 3 x0 R0 (Sl.mk none 0 0)) a2P _ b2a.drop.drop.drop h
theorem a9u (x0 : Int) (x1 : d8) (x2 : d8) {H : Hp} {K : o9 → Hp → Prop} (h : X9 x0 x1 x2 H K) : a1u x0 x1 x2 H K := by
 intro w I
 refine f3A ?_
 refine a9b x0 x1 x2 I (fun r0 H' w' I' hk => ⟨H', _, I', r0, rfl, rfl, hk⟩) h
def Y0 (x0 : Int) (x1 : d8) (x2 : d8) (H : Hp) (K : d8 → Hp → Prop) : Prop :=
 ∀ (R0 : Sl) (a2P : Hp), Hle H a2P → SlH a2P 4 b6 R0 [x1, x2] → R0.n ≤ R0.c →
 K (d8.mk x0 0 ⟨#[]⟩ R0) a2P
theorem a9c (x0 : Int) (x1 : d8) (x2 : d8) {K : d8 → Hp → Prop} (I : Inv w0 ps0 H0 H [] w) (hR : ∀ (r0 : d8) (H' : Hp) (w' : World) (_ : Inv w0 ps0 H0 H' [] w') (_ : K r0 H'), R (Value.agg (b6 r0).toArray) w') (h : Y0 x0 x1 x2 H K) : F25 (vi x0) (Value.agg (b6 x1).toArray) (Value.agg (b6 x2).toArray) w R E := by
 unfold Y0 at h
 unfold F25
 refine L8 I (cs := (b6 x1)) rfl fun g_2 w_3 I_4 k_5 => ?_
 refine L8 I_4 (cs := (b6 x2)) rfl fun g_7 w_8 I_9 c2T => ?_
 refine z7 I_9 Tryd.zeroValue24 (cs := [(vi 0), (vi 0), (eS), (nS)]) rfl fun g3Z Y6 M6 a1z => ?_
 refine b8 (ldA Tryd.isAgg24 Tryd.sizeOf24 rfl ((M6.bring 2).at1 (o := 0) (vs := (b6 x1)) (nb rfl) rfl)) ?_
 refine b8 (ldA Tryd.isAgg24 Tryd.sizeOf24 rfl ((M6.bring 1).at1 (o := 0) (vs := (b6 x2)) (nb rfl) rfl)) ?_
 refine U3 (e := 24) (c := b6) (xs := [x1, x2]) M6 (b8T _ _ _ _ _ _ _ _ _ _ _ _) rfl rfl a0t a0u (nb rfl) fun R0 f6c a2z b6P a5O b9x => ?_
 refine a7 (a6Q _ _ _ _) ?_
 refine m9 (a5O.bring 1) Tryd.sizeOf24 (vs := [(vi x0), (vi 0), (eS), (vs R0)]) (cs' := [(vi x0), (vi 0), (eS), (vs R0)]) rfl rfl (nb rfl) rfl rfl fun a3l b0h e8W => ?_
 refine a2j Tryd.isAgg24 Tryd.sizeOf24 rfl (b0h.at1 (o := 0) (vs := [(vi x0), (vi 0), (eS), (vs R0)]) (nb rfl) rfl) ?_
 obtain ⟨a2P, b2a, b6n, a4M, b6j⟩ := Inv.freezeC (b0h.bring 1) b6P (by decide)
 replace h := h R0 a2P b6n a4M b6j
 exact hR (d8.mk x0 0 ⟨#[]⟩ R0) a2P _ b2a.drop.drop.drop h
theorem a9v (x0 : Int) (x1 : d8) (x2 : d8) {H : Hp} {K : d8 → Hp → Prop} (h : Y0 x0 x1 x2 H K) : a1v x0 x1 x2 H K := by
 intro w I
 refine f3I ?_
 refine a9c x0 x1 x2 I (fun r0 H' w' I' hk => ⟨H', _, I', r0, rfl, rfl, hk⟩) h
def W0 (x0 : ByteArray) (x1 : d8) (H : Hp) (K : o0 → Hp → Prop) : Prop :=
 ∀ (b0p : Sl) (c0g : Hp), Hle H c0g → SlH c0g 4 b6 b0p [x1] → b0p.n ≤ b0p.c →
 K (o0.mk 1 x0 b0p (Sl.mk none 0 0) (Sl.mk none 0 0) (Sl.mk none 0 0)) c0g
theorem a7w (x0 : ByteArray) (x1 : d8) {K : o0 → Hp → Prop} (I : Inv w0 ps0 H0 H [] w) (hR : ∀ (r0 : o0) (H' : Hp) (w' : World) (_ : Inv w0 ps0 H0 H' [] w') (_ : K r0 H'), R (Value.agg (d9 r0).toArray) w') (h : W0 x0 x1 H K) : F24 (Value.string x0) (Value.agg (b6 x1).toArray) w R E := by
 unfold W0 at h
 unfold F24
 refine L8 I (cs := (b6 x1)) rfl fun g_2 w_3 I_4 k_5 => ?_
 refine z7 I_4 Tryd.zeroValue63 (cs := [(vi 0), (eS), (nS), (nS), (nS), (nS)]) rfl fun g_7 w_8 I_9 c2T => ?_
 refine b8 (ldA Tryd.isAgg24 Tryd.sizeOf24 rfl ((I_9.bring 1).at1 (o := 0) (vs := (b6 x1)) (nb rfl) rfl)) ?_
 refine U3 (e := 24) (c := b6) (xs := [x1]) I_9 (b4B _ _ _ _ _ _) rfl rfl a0t a0u (nb rfl) fun b0p d3m o2 g4a g4b g7C => ?_
 refine a7 (a5h _ _ _ _ _) ?_
 refine m9 (g4b.bring 1) Tryd.sizeOf63 (vs := [(vi 1), (Value.string x0), (vs b0p), (nS), (nS), (nS)]) (cs' := [(vi 1), (Value.string x0), (vs b0p), (nS), (nS), (nS)]) rfl rfl (nb rfl) rfl rfl fun q7 a4k b3x => ?_
 refine a2j Tryd.isAgg63 Tryd.sizeOf63 rfl (a4k.at1 (o := 0) (vs := [(vi 1), (Value.string x0), (vs b0p), (nS), (nS), (nS)]) (nb rfl) rfl) ?_
 obtain ⟨c0g, b9v, b9B, c3o, b6x⟩ := Inv.freezeC (a4k.bring 1) g4a (by decide)
 replace h := h b0p c0g b9B c3o b6x
 exact hR (o0.mk 1 x0 b0p (Sl.mk none 0 0) (Sl.mk none 0 0) (Sl.mk none 0 0)) c0g _ b9v.drop.drop h
theorem a9d (x0 : ByteArray) (x1 : d8) {H : Hp} {K : o0 → Hp → Prop} (h : W0 x0 x1 H K) : a1h x0 x1 H K := by
 intro w I
 refine f3G ?_
 refine a7w x0 x1 I (fun r0 H' w' I' hk => ⟨H', _, I', r0, rfl, rfl, hk⟩) h
def R1 (x0 : Int) (x1 : Int) (H : Hp) (K : Bool → Hp → Prop) : Prop :=
 a0N H (fun (C4 : Bool) (H_1 : Hp) =>
 ((!C4) = true →
 K false H_1) ∧
 ((!C4) = false →
 (((((decide (x0 < 0)) || (decide (500 < x0))) || (decide (x1 < 0))) || (decide (2000 < x1))) = true →
 K true H_1) ∧
 (((((decide (x0 < 0)) || (decide (500 < x0))) || (decide (x1 < 0))) || (decide (2000 < x1))) = false →
 U9 ⟨#[120]⟩ H_1 (fun (a3r : d8) (a8p : Hp) =>
 S9 x0 a8p (fun (b4S : d8) (a2P : Hp) =>
 a1u 1 a3r b4S a2P (fun (b2f : o9) (a6Y : Hp) =>
 U9 ⟨#[120]⟩ a6Y (fun (d8i : d8) (b3E : Hp) =>
 S9 1 b3E (fun (d8j : d8) (f6f : Hp) =>
 a1v 6 d8i d8j f6f (fun (a6u : d8) (b3t : Hp) =>
 a1h ⟨#[120]⟩ a6u b3t (fun (a3P : o0) (a2K : Hp) =>
 ∀ (a5G : Sl) (c4R : Hp), Hle a2K c4R → SlH c4R 4 i5 a5G [b2f] → a5G.n ≤ a5G.c →
 ∀ (b6Q : Sl) (c4S : Hp), Hle c4R c4S → SlH c4S 6 d9 b6Q [a3P] → b6Q.n ≤ b6Q.c →
 ∀ (b0q : Sl) (b8D : Hp), Hle c4S b8D → SlH b8D 2 m4 b0q [(j7.mk ⟨#[120]⟩ 0)] → b0q.n ≤ b0q.c →
 ∀ (a6x : Sl) (b8E : Hp), Hle b8D b8E → SlH b8E 6 d9 a6x [(o0.mk 4 ⟨#[]⟩ (Sl.mk none 0 0) a5G b6Q (Sl.mk none 0 0))] → a6x.n ≤ a6x.c →
 a4I (B0.mk b0q a6x) (Sl.mk none 0 0) x1 b8E (fun (W2 : N3) (b4h : Int) (a9G : Hp) =>
 ∃ b8F : Int, (((!decide (b4h = 0)) || (!decide ((W2.W7.n : Int) = 1))) = false → (0 : Int) ≤ 0 ∧ (0 : Int) < W2.W7.n ∧ EltH a9G W2.W7 0 1 [(vi b8F)]) ∧
 (((((!decide (b4h = 0)) || (!decide ((W2.W7.n : Int) = 1))) || (!decide (b8F = (if x0 < (IntKind.wrap .i64 (Int.tdiv x1 2)) then x0 else IntKind.wrap .i64 (Int.tdiv x1 2))))) || (!decide (W2.a4o = (if (IntKind.wrap .i64 ((IntKind.wrap .i64 (2 * x0)) + 1)) < x1 then IntKind.wrap .i64 ((IntKind.wrap .i64 (2 * x0)) + 1) else x1)))) = true →
 K false a9G) ∧
 (((((!decide (b4h = 0)) || (!decide ((W2.W7.n : Int) = 1))) || (!decide (b8F = (if x0 < (IntKind.wrap .i64 (Int.tdiv x1 2)) then x0 else IntKind.wrap .i64 (Int.tdiv x1 2))))) || (!decide (W2.a4o = (if (IntKind.wrap .i64 ((IntKind.wrap .i64 (2 * x0)) + 1)) < x1 then IntKind.wrap .i64 ((IntKind.wrap .i64 (2 * x0)) + 1) else x1)))) = false →
 ((IntKind.wrap .i64 ((IntKind.wrap .i64 (2 * x0)) + 1)) ≤ x1 →
 K (decide (W2.a0Z = 2)) a9G) ∧
 (¬ ((IntKind.wrap .i64 ((IntKind.wrap .i64 (2 * x0)) + 1)) ≤ x1) →
 K (decide (W2.a0Z = 1)) a9G)))))))))))))
theorem a5I (x0 : Int) (x1 : Int) {K : Bool → Hp → Prop} (I : Inv w0 ps0 H0 H [] w) (hR : ∀ (r0 : Bool) (H' : Hp) (w' : World) (_ : Inv w0 ps0 H0 H' [] w') (_ : K r0 H'), R (vB r0) w') (h : R1 x0 x1 H K) : F5 (vi x0) (vi x1) w R E := by
 unfold R1 at h
 unfold F5
 refine d5 (cap := []) (fun args w => Tryd.call17 args w) ?_
 refine m5 (Fi := []) (Fr := []) I (h) (fun v_5 H_1 F_6 w_2 I_3 l_8 k_4 q_7 => ?_) (fun _ _ _ _ _ q => q.elim)
 obtain ⟨C4, rfl, rfl, h⟩ := q_7
 refine a7 (a0C _) ?_
 refine p7 (fun c8R => ?_) (fun c8R => ?_)
 ·replace h := h.1 c8R
  exact hR false H_1 _ I_3 h
 ·replace h := h.2 c8R
  refine a7 (B8 _ _ _ _ _ _) ?_
  simp only [L3]
  refine a7 (Pu.g fun hb => by have g7 := hb; simp only [o7 g7]; exact (a0B _ _ _ _ _ _)) ?_
  refine a7 (W6 _ _) ?_
  simp only [L3]
  refine a7 (Pu.g fun hb => by have g7 := hb; simp only [o7 g7]; exact (B8 _ _ _ _ _ _)) ?_
  refine a7 (W6 _ _) ?_
  simp only [L3]
  refine a7 (Pu.g fun hb => by have g7 := hb; simp only [o7 g7]; exact (a0B _ _ _ _ _ _)) ?_
  refine a7 (W6 _ _) ?_
  refine p7 (fun c8S => ?_) (fun c8S => ?_)
  ·replace h := h.1 c8S
   exact hR true H_1 _ I_3 h
  ·replace h := h.2 c8S
   refine a7 (b5B _) ?_
   refine U3 (e := 58) (c := m4) (xs := [(j7.mk ⟨#[120]⟩ 0)]) I_3 (c5M _ _) rfl rfl b2B b2C (nb rfl) fun b0q b6R Y6 g4c b5W c7r => ?_
   refine d5 (cap := []) (fun args w => Tryd.call22 args w) ?_
   refine m5 (Fi := []) (Fr := [b6R]) b5W (h) (fun d3n a8p d3o q7 a4k d3p b3x b6i => ?_) (fun _ _ _ _ _ q => q.elim)
   obtain ⟨a3r, rfl, rfl, h⟩ := b6i
   refine d5 (cap := []) (fun args w => Tryd.call23 args w) ?_
   refine m5 (Fi := []) (Fr := [b6R]) a4k (h) (fun g3e a2P g3f a3j a8l b9I d4v d4w => ?_) (fun _ _ _ _ _ q => q.elim)
   obtain ⟨b4S, rfl, rfl, h⟩ := d4w
   refine d5 (cap := []) (fun args w => Tryd.call21 args w) ?_
   refine m5 (Fi := []) (Fr := [b6R]) a8l (h) (fun g3g a6Y g3h F7 d4x g3i g3j d4y => ?_) (fun _ _ _ _ _ q => q.elim)
   obtain ⟨b2f, rfl, rfl, h⟩ := d4y
   refine U3 (e := 27) (c := i5) (xs := [b2f]) d4x (d8R _ _ _ _ _ _ _ _) rfl rfl c0R c0S (nb rfl) fun a5G c3q b5T d4z b6k d3w => ?_
   refine d5 (cap := []) (fun args w => Tryd.call22 args w) ?_
   refine m5 (Fi := []) (Fr := [c3q, b6R]) b6k (h) (fun g7D b3E g7E E3 g4d g7F g7G g4e => ?_) (fun _ _ _ _ _ q => q.elim)
   obtain ⟨d8i, rfl, rfl, h⟩ := g4e
   refine d5 (cap := []) (fun args w => Tryd.call23 args w) ?_
   refine m5 (Fi := []) (Fr := [c3q, b6R]) g4d (h) (fun g7H f6f g7I c7S d6P g7J g3N g4f => ?_) (fun _ _ _ _ _ q => q.elim)
   obtain ⟨d8j, rfl, rfl, h⟩ := g4f
   refine d5 (cap := []) (fun args w => Tryd.call25 args w) ?_
   refine m5 (Fi := []) (Fr := [c3q, b6R]) d6P (h) (fun c7v b3t g2h L6 b6a g2i e8J d3h => ?_) (fun _ _ _ _ _ q => q.elim)
   obtain ⟨a6u, rfl, rfl, h⟩ := d3h
   refine d5 (cap := []) (fun args w => Tryd.call24 args w) ?_
   refine m5 (Fi := []) (Fr := [c3q, b6R]) b6a (h) (fun c2Q a2K e8K b0c b3v c7w c7x c2S => ?_) (fun _ _ _ _ _ q => q.elim)
   obtain ⟨a3P, rfl, rfl, h⟩ := c2S
   refine U3 (e := 63) (c := d9) (xs := [a3P]) b3v (c5N _ _ _ _ _ _ _ _ _ _ _ _ _ _) rfl rfl a6O a6P (nb rfl) fun b6Q g7K W5 g4g a6h g3X => ?_
   refine a7 (b7n _ _ _ _ _ _ _) ?_
   obtain ⟨c4R, g4h, g4i, d6R, g4j⟩ := Inv.freezeC (a6h.bring 1) d4z (by decide)
   replace h := h a5G c4R g4i d6R g4j
   obtain ⟨c4S, f9L, f9M, f9N, c8T⟩ := Inv.freezeC g4h g4g (by decide)
   replace h := h b6Q c4S f9M f9N c8T
   refine U3 (e := 63) (c := d9) (xs := [(o0.mk 4 ⟨#[]⟩ (Sl.mk none 0 0) a5G b6Q (Sl.mk none 0 0))]) f9L (c5N _ _ _ _ _ _ _ _ _ _ _ _ _ _) rfl rfl a6O a6P (nb rfl) fun a6x g4U f9O c8U f9P g4V => ?_
   refine a7 (b2D _ _ _ _ _ _) ?_
   refine z7 f9P Tryd.zeroValue44 (cs := [(nS), (nS)]) rfl fun f9Q g4W f9R g4X => ?_
   refine m9 f9R Tryd.sizeOf44 (vs := [(vs b0q), (vs a6x)]) (cs' := [(vs b0q), (vs a6x)]) rfl rfl (nb rfl) rfl rfl fun T6 d8k g4Y => ?_
   refine b8 (ldA Tryd.isAgg44 Tryd.sizeOf44 rfl (d8k.at1 (o := 0) (vs := [(vs b0q), (vs a6x)]) (nb rfl) rfl)) ?_
   obtain ⟨b8D, f9S, f9T, f9U, f9V⟩ := Inv.freezeC (d8k.bring 2) g4c (by decide)
   replace h := h b0q b8D f9T f9U f9V
   obtain ⟨b8E, f9W, f9X, f9Y, f9Z⟩ := Inv.freezeC (f9S.bring 1) c8U (by decide)
   replace h := h a6x b8E f9X f9Y f9Z
   refine d5 (cap := []) (fun args w => Tryd.call18 args w) ?_
   refine m5 (Fi := []) (Fr := [bx f9Q 44 [(vs b0q), (vs a6x)]]) f9W (h) (fun g4Z a9G g5a a4A g0a c1k g5b g0b => ?_) (fun _ _ _ _ _ q => q.elim)
   obtain ⟨W2, b4h, rfl, rfl, h⟩ := g0b
   refine a7 (m6 _ _ _ rfl) ?_
   refine a7 (m6 _ _ (vi b4h) rfl) ?_
   refine z7 g0a Tryd.zeroValue49 (cs := [(vi 0), (vi 0), (vi 0), (nS), (nS), (nS)]) rfl fun g5c a5x g0c g5d => ?_
   refine m9 g0c Tryd.sizeOf49 (vs := (p9 W2)) (cs' := (p9 W2)) rfl rfl (nb rfl) rfl rfl fun d8h a7x g5e => ?_
   refine a7 (a0m _ _ _ _ _ _) ?_
   refine a7 (Pu.g fun hb => by have g7 := hb; exact a3H) ?_
   refine b8 (Ld.g fun hb => by have g7 := hb; simp only [o7 g7]; exact (ld1 Tryd.isAgg45 (a7x.at1 (o := 4) (vs := [(vs W2.W7)]) (nb rfl) rfl))) ?_
   refine a7 (Pu.g fun hb => by have g7 := hb; simp only [o7 g7]; exact (a6B _ _ _)) ?_
   refine a7 (Pu.g fun hb => by have g7 := hb; simp only [o7 g7]; exact (a0m _ _ _ _ _ _)) ?_
   refine a7 (W6 _ _) ?_
   refine a7 (Pu.g fun hb => by have g7 := hb; exact a3H) ?_
   refine b8 (Ld.g fun hb => by have g7 := hb; simp only [o7 g7]; exact (ld1 Tryd.isAgg45 (a7x.at1 (o := 4) (vs := [(vs W2.W7)]) (nb rfl) rfl))) ?_
   obtain ⟨b8F, b5h, h⟩ := h
   obtain ⟨g5f, g5g, b5h⟩ := c6M b5h
   refine a7 (Pu.g fun hb => by have g7 := hb; simp only [o7 g7]; exact (R7 (b5h hb).2.2.1 _ _ _ _ (b5h hb).1 (b5h hb).2.1)) ?_
   refine b8 (Ld.g fun hb => by have g7 := hb; simp only [o7 g7]; exact (ld1 (v := (vi b8F)) Tryd.isAgg2 (a7x.atH (b5h hb).2.2.2))) ?_
   simp only [L3]
   refine a7 (Pu.g fun hb => by have g7 := hb; simp only [o7 g7]; exact (c9R _ _ _ _ _ _ (by decide))) ?_
   refine a7 (Pu.g fun hb => by have g7 := hb; simp only [o7 g7]; exact (c9Q _ _ _ _ _)) ?_
   refine a7 (Pu.g fun hb => by have g7 := hb; simp only [o7 g7]; exact (a0m _ _ _ _ _ _)) ?_
   refine a7 (W6 _ _) ?_
   refine a7 (Pu.g fun hb => by have g7 := hb; exact b7m) ?_
   refine b8 (Ld.g fun hb => by have g7 := hb; simp only [o7 g7]; exact (ld1 Tryd.isAgg3 (a7x.at1 (o := 2) (vs := [(vi W2.a4o)]) (nb rfl) rfl))) ?_
   simp only [L3]
   refine a7 (Pu.g fun hb => by have g7 := hb; simp only [o7 g7]; exact (a6y _ _ _ _ _ _)) ?_
   refine a7 (Pu.g fun hb => by have g7 := hb; simp only [o7 g7]; exact (E4 _ _ _ _ _ _)) ?_
   refine a7 (Pu.g fun hb => by have g7 := hb; simp only [o7 g7]; exact (c9Q _ _ _ _ _)) ?_
   refine a7 (Pu.g fun hb => by have g7 := hb; simp only [o7 g7]; exact (a0m _ _ _ _ _ _)) ?_
   refine a7 (W6 _ _) ?_
   refine p7 (fun c8V => ?_) (fun c8V => ?_)
   ·replace h := h.1 c8V
    exact hR false a9G _ a7x.drop.drop h
   ·replace h := h.2 c8V
    refine a7 (a6y _ _ _ _ _ _) ?_
    refine a7 (E4 _ _ _ _ _ _) ?_
    refine a7 (a7O _ _ _ _ _ _) ?_
    refine i4 (fun c8W => ?_) (fun c8W => ?_)
    ·replace h := h.1 c8W
     refine a7 b1j ?_
     refine b8 (ld1 Tryd.isAgg3 (a7x.at1 (o := 0) (vs := [(vi W2.a0Z)]) (nb rfl) rfl)) ?_
     refine a7 (i8 _ _ _ _ _ _) ?_
     exact hR (decide (W2.a0Z = 2)) a9G _ a7x.drop.drop h
    ·replace h := h.2 c8W
     refine a7 b1j ?_
     refine b8 (ld1 Tryd.isAgg3 (a7x.at1 (o := 0) (vs := [(vi W2.a0Z)]) (nb rfl) rfl)) ?_
     refine a7 (i8 _ _ _ _ _ _) ?_
     exact hR (decide (W2.a0Z = 1)) a9G _ a7x.drop.drop h
theorem a6i (x0 : Int) (x1 : Int) {H : Hp} {K : Bool → Hp → Prop} (h : R1 x0 x1 H K) : Q8 x0 x1 H K := by
 intro w I
 refine f9h ?_
 refine a5I x0 x1 I (fun r0 H' w' I' hk => ⟨H', _, I', r0, rfl, rfl, hk⟩) h
def a2q (x0 : d8) (H : Hp) (K : Int → Bool → Hp → Prop) : Prop :=
 (x0.b9 = 1 →
 K x0.G8 true H) ∧
 (¬ (x0.b9 = 1) →
 ∃ x_6 : d8, ((decide (x0.b9 = 5)) = true → (0 : Int) ≤ 0 ∧ (0 : Int) < x0.z6.n ∧ EltH H x0.z6 0 4 (b6 x_6)) ∧
 (((decide (x0.b9 = 5)) && (decide (x_6.b9 = 1))) = true →
 (0 : Int) ≤ 0 ∧ (0 : Int) < x0.z6.n ∧ ∃ b3P : d8, EltH H x0.z6 0 4 (b6 b3P) ∧
 K (IntKind.wrap .i64 (0 - b3P.G8)) true H) ∧
 (((decide (x0.b9 = 5)) && (decide (x_6.b9 = 1))) = false →
 K 0 false H))
theorem b0r (x0 : d8) {K : Int → Bool → Hp → Prop} (I : Inv w0 ps0 H0 H [] w) (hR : ∀ (r0 : Int) (r1 : Bool) (H' : Hp) (w' : World) (_ : Inv w0 ps0 H0 H' [] w') (_ : K r0 r1 H'), R (Value.tuple #[(vi r0), (vB r1)]) w') (h : a2q x0 H K) : c8O (Value.agg (b6 x0).toArray) w R E := by
 unfold a2q at h
 unfold c8O
 refine L8 I (cs := (b6 x0)) rfl fun g_2 w_3 I_4 k_5 => ?_
 refine a7 U7 ?_
 refine b8 (ld1 Tryd.isAgg3 (I_4.at1 (o := 0) (vs := [(vi x0.b9)]) (nb rfl) rfl)) ?_
 refine a7 (i8 _ _ _ _ _ _) ?_
 refine i4 (fun a8y => ?_) (fun a8y => ?_)
 ·replace h := h.1 a8y
  refine a7 a7f ?_
  refine b8 (ld1 Tryd.isAgg2 (I_4.at1 (o := 1) (vs := [(vi x0.G8)]) (nb rfl) rfl)) ?_
  exact hR x0.G8 true H _ I_4.drop h
 ·replace h := h.2 a8y
  refine a7 U7 ?_
  refine b8 (ld1 Tryd.isAgg3 (I_4.at1 (o := 0) (vs := [(vi x0.b9)]) (nb rfl) rfl)) ?_
  refine a7 (i8 _ _ _ _ _ _) ?_
  refine a7 (Pu.g fun hb => by have g7 := hb; exact a3G) ?_
  refine b8 (Ld.g fun hb => by have g7 := hb; simp only [o7 g7]; exact (ld1 Tryd.isAgg22 (I_4.at1 (o := 3) (vs := [(vs x0.z6)]) (nb rfl) rfl))) ?_
  obtain ⟨x_6, b4i, h⟩ := h
  obtain ⟨g_7, o_8, b4i⟩ := c6M b4i
  refine a7 (Pu.g fun hb => by have g7 := hb; simp only [o7 g7]; exact (a1f (b4i hb).2.2.1 _ _ _ _ (b4i hb).1 (b4i hb).2.1)) ?_
  refine a7 (Pu.g fun hb => by have g7 := hb; simp only [o7 g7]; exact U7) ?_
  refine b8 (Ld.g fun hb => by have g7 := hb; simp only [o7 g7]; exact (ld1 (v := (vi x_6.b9)) Tryd.isAgg3 ((I_4.atH (b4i hb).2.2.2).sub (k := 0) (n := 1) (nb rfl)))) ?_
  refine a7 (Pu.g fun hb => by have g7 := hb; simp only [o7 g7]; exact (i8 _ _ _ _ _ _)) ?_
  refine a7 (O7 _ _) ?_
  refine p7 (fun a4N => ?_) (fun a4N => ?_)
  ·replace h := h.1 a4N
   refine a7 a3G ?_
   refine b8 (ld1 Tryd.isAgg22 (I_4.at1 (o := 3) (vs := [(vs x0.z6)]) (nb rfl) rfl)) ?_
   obtain ⟨g4k, g4l, b3P, c4Q, h⟩ := h
   obtain ⟨g7L, g7M, d6S, c4Q⟩ := c4Q
   refine a7 (a1f d6S _ _ _ _ g4k g4l) ?_
   refine a7 a7f ?_
   refine b8 (ld1 (v := (vi b3P.G8)) Tryd.isAgg2 ((I_4.atH c4Q).sub (k := 1) (n := 1) (nb rfl))) ?_
   refine a7 (c1y _ _) ?_
   exact hR (IntKind.wrap .i64 (0 - b3P.G8)) true H _ I_4.drop h
  ·replace h := h.2 a4N
   exact hR 0 false H _ I_4.drop h
theorem b0V (x0 : d8) {H : Hp} {K : Int → Bool → Hp → Prop} (h : a2q x0 H K) : a4Z x0 H K := by
 intro w I
 refine e3N ?_
 refine b0r x0 I (fun r0 r1 H' w' I' hk => ⟨H', _, I', r0, r1, rfl, rfl, hk⟩) h
end Go.Proofs.YtnhkdkcgdcgmdaaDoor
