/- Typed formulas of the program's functions that few laws need; printed by lift.py off the code. -/
import Derived.Test.YtnhkdkcgdcgmdaaDoorzOV1
import Derived.Test.YtnhkdkcgdcgmdaaDoorzOG1z
namespace Go.Proofs.YtnhkdkcgdcgmdaaDoor
open Go.RowKit
set_option maxRecDepth 100000
set_option maxHeartbeats 2000000
variable {w0 w : World} {ps0 : Nat → Prop} {H0 H : Hp} {R : RT} {E : Pan}
def a4X (x0 : b8) (H : Hp) (K : Int → Hp → Prop) : Prop :=
 ∀ (s_7 : Sl) (a1h : Hp), Hle H a1h → SlH a1h 1 t6 s_7 [(d7.L8 (N0.mk x0))] → s_7.n ≤ s_7.c →
 a0V s_7 a1h (fun (b1s : g9) (c1I : Hp) =>
 K b1s.fe c1I)
theorem b7P (x0 : b8) {K : Int → Hp → Prop} (I : Inv w0 ps0 H0 H [] w) (hR : ∀ (r0 : Int) (H' : Hp) (w' : World) (_ : Inv w0 ps0 H0 H' [] w') (_ : K r0 H'), R (vi r0) w') (h : a4X x0 H K) : F41 (Value.agg (d5 x0).toArray) w R E := by
 unfold a4X at h
 unfold F41
 refine J3 I (cs := (d5 x0)) rfl fun g_2 w_3 I_4 k_5 => ?_
 refine d6 (ldA Tryd.isAgg27 Tryd.sizeOf27 rfl (I_4.at1 (o := 0) (vs := (d5 x0)) (nb rfl) rfl)) ?_
 refine a7 (b8d _ _ _ _ _ _ _ _) ?_
 refine a7 (b5l (N0.mk x0)) ?_
 refine a3h (e := 152) (c := t6) (xs := [(d7.L8 (N0.mk x0))]) I_4 (a9M _) rfl rfl O3 P0 (nb rfl) fun s_7 F_8 w_9 b2S V5 a7A => ?_
 obtain ⟨a1h, J6, c1j, b0f, c1J⟩ := Inv.freezeC V5 b2S (by decide)
 replace h := h s_7 a1h c1j b0f c1J
 refine f2 (cap := []) (fun args w => Tryd.call60 args w) ?_
 refine i8 (Fi := []) (Fr := [bx g_2 27 (d5 x0)]) J6 (h) (fun g5J c1I g5K a0D b4C d3m d9E e0F => ?_) (fun _ _ _ _ _ q => q.elim)
 obtain ⟨b1s, f3S, rfl, rfl, h⟩ := e0F
 refine a7 (I0 _) ?_
 refine a7 a0b ?_
 refine d6 (ld1 Tryd.isAgg29 (b4C.at1 (o := 2) (vs := [(vi b1s.fe)]) (nb rfl) rfl)) ?_
 exact hR b1s.fe c1I _ b4C.drop.drop h
theorem b8Y (x0 : b8) {H : Hp} {K : Int → Hp → Prop} (h : a4X x0 H K) : a7r x0 H K := by
 intro w I
 refine f4d ?_
 refine b7P x0 I (fun r0 H' w' I' hk => ⟨H', _, I', r0, rfl, rfl, hk⟩) h
end Go.Proofs.YtnhkdkcgdcgmdaaDoor
