/- A runner's conditions and statements. Off the readings. -/
import Derived.Test.YtnhkdkcgdcgmdaaGreatDoorzXN8
namespace Go.Proofs.YtnhkdkcgdcgmdaaGreatDoor
open Go.RowKit
set_option maxRecDepth 100000
set_option maxHeartbeats 4000000
section
variable {P : Program} {E : Pan} {w : World} {K : Value → World → Prop} {s : Sem Next}
theorem b2W (h : opK P E s w K) : opK P E (gsem (asB (.bool true)) true s) w K := h
theorem a5V (h : opK P E s w K) : opK P E (gsem (asB (.bool false)) false s) w K := h
theorem b2X (h : K undef w) : opK P E (gsem (asB (.bool true)) false s) w K := h
theorem b2Y (h : K undef w) : opK P E (gsem (asB (.bool false)) true s) w K := h
end
section
variable {k0 : Int} {ev0 : Nat} {ns ars : List ByteArray} {H : Hp} {g : Nat} {X : Cx}
theorem a0L {α : Type} {sz : Nat} {cf : α → List Value} {R : α → PT → Prop} {s : Sl} {xs : List α} {ts : List PT} (hs : SlH H sz cf s xs) (hr : C0 R xs ts) {i : Nat} {t : PT} (ht : ts[i]? = some t) : ∃ x, EltH H s i sz (cf x) ∧ R x t ∧ (i : Int) < s.n := by
 obtain ⟨x, hx⟩ := r6 (l := xs) (i := i) (by have := s8 ht; have := hr.1; omega)
 have := s8 hx
 have hn := hs.1
 exact ⟨x, hs.2 i x hx, hr.2 i x t hx ht, by omega⟩
theorem a3D {ps : List PT} {i : Nat} {u : PT} (h : ps[i]? = some u) : (ps.map cvT).getD i (ret false) = cvT u := by
 rw [List.getD_eq_getElem?_getD, List.getElem?_map, h]; rfl
theorem b5g {ps : List PT} {i : Nat} {u : PT} (h : ps[i]? = some u) : (ps.map evT).getD i (ret 0) = evT u := by
 rw [List.getD_eq_getElem?_getD, List.getElem?_map, h]; rfl
variable (hk : k0 ≤ 1000000) (hev : ev0 ≤ 1000000)
include hk hev
theorem d0r {t : PT} (ha : ArC t) : formT t = true → ∀ {e : o0}, CH H e t → Nm ns ars (uT t) → CR k0 ev0 ns ars 135 [rP g, .agg (h9 e).toArray] H g X (cvT t) bE := by
 induction ha with
 | @mk k0' op0 es ps har hae hac ih =>
  intro hf e he hu σ F hr ho w I
  generalize htt : PT.mk (.cond k0' op0 es.length ps.length) (es ++ ps) = tt at he
  cases he with
  | @mk _ xs ts ys us hs hb hrl hc hcb hcl hcr =>
   injection htt with hl hkk
   injection hl with q1 q2 q3 q4
   subst q1; subst q2
   obtain ⟨rfl, rfl⟩ := List.append_inj hkk q3
   have hpr : C0 (CH H) ys ps := ⟨hcl, hcr⟩
   obtain ⟨hu1, hu2⟩ := hu.own
   rw [formT, Bool.and_eq_true] at hf
   have hC : ∀ u ∈ ps, Cm ns ars (fun _ => True) (cvT u) := fun u hm => (cmC (hac u hm) (A7 hf.2 (List.mem_append_right _ hm)) (hu2.mem (List.mem_append_right _ hm))).1
   have hE : ∀ u ∈ es, Cm ns ars o8 (evT u) := fun u hm => cmE (hae u hm) (hu2.mem (List.mem_append_left _ hm))
   have hcv : cvT (PT.mk (.cond e.b7 e.fOp es.length ps.length) (es ++ ps)) = cvN e.b7 e.fOp (es.map evT) (ps.map cvT) := c0L _ _ _ _
   rw [hcv]
   refine d0h ?_
   unfold d3p
   refine F0 I (cs := h9 e) rfl fun g1 w1 I1 _ => ?_
   have dr : ∀ {F' : Frag} {w' : World}, Inv w (inF [F]) H H [F', bx g1 59 (h9 e)] w' → Inv w (inF [F]) H H [F'] w' := fun J => (J.bring 1).drop
   have part : ∀ {i : Nat} {u : PT} {σ1 : St} {F1 : Frag} {w2 : World} {K : Value → World → Prop} {E : Pan} {x : o0}, ps[i]? = some u → CH H x u → RnF g X σ1 H F1 → Okst k0 ev0 ns ars σ1 → Inv w (inF [F]) H H [F1, bx g1 59 (h9 e)] w2 →
     (∀ b σ2 F2 w3, cvT u σ1 = .ok b σ2 → RnF g X σ2 H F2 → Okst k0 ev0 ns ars σ2 → Inv w (inF [F]) H H [F2, bx g1 59 (h9 e)] w3 → K (.bool b) w3) →
     (∀ st wr σ2 F2 w3, cvT u σ1 = .stop st wr σ2 → RnF g X σ2 H F2 → Inv w (inF [F]) H H [F2, bx g1 59 (h9 e)] w3 → E [{ v := endsV st wr, recovered := false }] w3) →
     Cv Tryz.prog 135 [rP g, .agg (h9 x).toArray].toArray w2 K E := fun {i} {u} {σ1} {F1} {w2} {K} {E} {x} hi hx hr1 ho1 I2 hK hE2 => by
    have hm := List.mem_of_getElem? hi
    refine (ih u hm (A7 hf.2 (List.mem_append_right _ hm)) hx (hu2.mem (List.mem_append_right _ hm))).use hr1 ho1 I2 (fun a σ' F' w' e1 hr2 J => ?_) fun st wr σ' F' w' e1 hr2 J => hE2 st wr σ' F' w' e1 hr2 J
    exact hK a σ' F' w' e1 hr2 (a4r (hC u hm) ho1 e1).2 J
   obtain ⟨a3, a4, a5, a6⟩ := har
   refine a8 a5Z ?_
   refine b6 (ld1 Tryz.isAgg3 (I1.at1 (o := 0) (vs := [vi e.b7]) (nb rfl) rfl)) ?_
   refine a8 (f9 _ _ _ _ _ _) ?_
   refine G4 (fun c4 => ?_) (fun c4 => ?_)
   ·obtain ⟨u, hu0⟩ := r6 (l := ps) (i := 0) (by have := a4 c4; omega)
    obtain ⟨x, ⟨g5, o5, ha5, hA5⟩, hx, hlt⟩ := a0L hc hpr hu0
    have hm : cvN e.b7 e.fOp (es.map evT) (ps.map cvT) = bnd (cvT u) fun b => ret !b := by unfold cvN; rw [if_pos c4, a3D hu0]
    rw [hm]
    refine a8 O3 ?_
    refine b6 (ld1 Tryz.isAgg57 (I1.at1 (o := 3) (vs := [vs e.v8]) (nb rfl) rfl)) ?_
    refine a8 (P6 ha5 _ _ _ _ (by decide) hlt) ?_
    refine b6 (ldA (vs := h9 x) Tryz.isAgg59 Tryz.sizeOf59 rfl (I1.atH hA5)) ?_
    refine s6 (cap := []) (fun args w => Tryz.call135 args w) ?_
    refine part hu0 hx hr ho (I1.bring 1) (fun b σ2 F2 w3 e1 hr2 ho2 J => ?_) fun st wr σ2 F2 w3 e1 hr2 J => ?_
    ·refine a8 (G3 _) ?_
     exact ⟨_, _, dr J, !b, σ2, F2, by rw [R0 e1]; rfl, rfl, rfl, hr2, rfl⟩
    ·exact ⟨_, _, dr J, st, wr, σ2, F2, U4 e1, rfl, rfl, hr2, rfl⟩
   refine a8 (f9 _ _ _ _ _ _) ?_
   refine G4 (fun c5 => ?_) (fun c5 => ?_)
   ·obtain ⟨u, hu0⟩ := r6 (l := ps) (i := 0) (by have := a5 c5; omega)
    obtain ⟨u2, hu1'⟩ := r6 (l := ps) (i := 1) (by have := a5 c5; omega)
    obtain ⟨x, ⟨g5, o5, ha5, hA5⟩, hx, hlt⟩ := a0L hc hpr hu0
    obtain ⟨x2, ⟨g6, o6, ha6, hA6⟩, hx2, hlt2⟩ := a0L hc hpr hu1'
    have hm : cvN e.b7 e.fOp (es.map evT) (ps.map cvT) = bnd (cvT u) fun b => if b = true then cvT u2 else ret false := by unfold cvN; rw [if_neg c4, if_pos c5, a3D hu0, a3D hu1']
    rw [hm]
    refine a8 O3 ?_
    refine b6 (ld1 Tryz.isAgg57 (I1.at1 (o := 3) (vs := [vs e.v8]) (nb rfl) rfl)) ?_
    refine a8 (P6 ha5 _ _ _ _ (by decide) hlt) ?_
    refine b6 (ldA (vs := h9 x) Tryz.isAgg59 Tryz.sizeOf59 rfl (I1.atH hA5)) ?_
    refine s6 (cap := []) (fun args w => Tryz.call135 args w) ?_
    refine part hu0 hx hr ho (I1.bring 1) (fun b σ2 F2 w3 e1 hr2 ho2 J => ?_) fun st wr σ2 F2 w3 e1 hr2 J => ?_
    ·rw [R0 e1]
     cases b
     ·refine b2Y (b2Y (b2Y (b2Y (b2Y ?_))))
      refine a8 (a8r _ _ _) ?_
      exact ⟨_, _, dr J, false, σ2, F2, rfl, rfl, rfl, hr2, rfl⟩
     ·refine b2W ?_
      refine a8 O3 ?_
      refine b2W ?_
      refine b6 (ld1 Tryz.isAgg57 ((J.bring 1).at1 (o := 3) (vs := [vs e.v8]) (nb rfl) rfl)) ?_
      refine b2W ?_
      refine a8 (P6 ha6 _ _ _ _ (by decide) hlt2) ?_
      refine b2W ?_
      refine b6 (ldA (vs := h9 x2) Tryz.isAgg59 Tryz.sizeOf59 rfl (J.atH hA6)) ?_
      refine b2W ?_
      rw [t8, g7 rfl]
      refine s6 (cap := []) (fun args w => Tryz.call135 args w) ?_
      refine part hu1' hx2 hr2 ho2 J (fun b σ3 F3 w4 e2 hr3 ho3 J2 => ?_) fun st wr σ3 F3 w4 e2 hr3 J2 => ?_
      ·refine a8 (a8r _ _ _) ?_
       exact ⟨_, _, dr J2, b, σ3, F3, by rw [if_pos rfl]; exact e2, rfl, rfl, hr3, rfl⟩
      ·exact ⟨_, _, dr J2, st, wr, σ3, F3, by rw [if_pos rfl]; exact e2, rfl, rfl, hr3, rfl⟩
    ·exact ⟨_, _, dr J, st, wr, σ2, F2, U4 e1, rfl, rfl, hr2, rfl⟩
   refine a8 (f9 _ _ _ _ _ _) ?_
   refine G4 (fun c6 => ?_) (fun c6 => ?_)
   ·obtain ⟨u, hu0⟩ := r6 (l := ps) (i := 0) (by have := a6 c6; omega)
    obtain ⟨u2, hu1'⟩ := r6 (l := ps) (i := 1) (by have := a6 c6; omega)
    obtain ⟨x, ⟨g5, o5, ha5, hA5⟩, hx, hlt⟩ := a0L hc hpr hu0
    obtain ⟨x2, ⟨g6, o6, ha6, hA6⟩, hx2, hlt2⟩ := a0L hc hpr hu1'
    have hm : cvN e.b7 e.fOp (es.map evT) (ps.map cvT) = bnd (cvT u) fun b => if b = true then ret true else cvT u2 := by unfold cvN; rw [if_neg c4, if_neg c5, if_pos c6, a3D hu0, a3D hu1']
    rw [hm]
    refine a8 O3 ?_
    refine b6 (ld1 Tryz.isAgg57 (I1.at1 (o := 3) (vs := [vs e.v8]) (nb rfl) rfl)) ?_
    refine a8 (P6 ha5 _ _ _ _ (by decide) hlt) ?_
    refine b6 (ldA (vs := h9 x) Tryz.isAgg59 Tryz.sizeOf59 rfl (I1.atH hA5)) ?_
    refine s6 (cap := []) (fun args w => Tryz.call135 args w) ?_
    refine part hu0 hx hr ho (I1.bring 1) (fun b σ2 F2 w3 e1 hr2 ho2 J => ?_) fun st wr σ2 F2 w3 e1 hr2 J => ?_
    ·rw [R0 e1]
     cases b
     ·refine a5V ?_
      refine a8 O3 ?_
      refine a5V ?_
      refine b6 (ld1 Tryz.isAgg57 ((J.bring 1).at1 (o := 3) (vs := [vs e.v8]) (nb rfl) rfl)) ?_
      refine a5V ?_
      refine a8 (P6 ha6 _ _ _ _ (by decide) hlt2) ?_
      refine a5V ?_
      refine b6 (ldA (vs := h9 x2) Tryz.isAgg59 Tryz.sizeOf59 rfl (J.atH hA6)) ?_
      refine a5V ?_
      rw [t8, g7 rfl]
      refine s6 (cap := []) (fun args w => Tryz.call135 args w) ?_
      refine part hu1' hx2 hr2 ho2 J (fun b σ3 F3 w4 e2 hr3 ho3 J2 => ?_) fun st wr σ3 F3 w4 e2 hr3 J2 => ?_
      ·refine a8 (a8r _ _ _) ?_
       exact ⟨_, _, dr J2, b, σ3, F3, by rw [if_neg (by decide)]; exact e2, rfl, rfl, hr3, rfl⟩
      ·exact ⟨_, _, dr J2, st, wr, σ3, F3, by rw [if_neg (by decide)]; exact e2, rfl, rfl, hr3, rfl⟩
     ·refine b2X (b2X (b2X (b2X (b2X ?_))))
      refine a8 (a8r _ _ _) ?_
      exact ⟨_, _, dr J, true, σ2, F2, rfl, rfl, rfl, hr2, rfl⟩
    ·exact ⟨_, _, dr J, st, wr, σ2, F2, U4 e1, rfl, rfl, hr2, rfl⟩
   refine a8 (f9 _ _ _ _ _ _) ?_
   refine G4 (fun c3 => ?_) (fun c3 => ?_)
   ·obtain ⟨u, hu0⟩ := r6 (l := es) (i := 0) (by have := a3 c3; omega)
    obtain ⟨u2, hu1'⟩ := r6 (l := es) (i := 1) (by have := a3 c3; omega)
    obtain ⟨x, ⟨g5, o5, ha5, hA5⟩, hx, hlt⟩ := a0L hs hrl hu0
    obtain ⟨x2, ⟨g6, o6, ha6, hA6⟩, hx2, hlt2⟩ := a0L hs hrl hu1'
    have hm : cvN e.b7 e.fOp (es.map evT) (ps.map cvT) = bnd (evT u) fun a => bnd (evT u2) fun b => bnd stepM fun _ => ret (cmpS e.fOp a b) := by unfold cvN; rw [if_neg c4, if_neg c5, if_neg c6, if_pos c3, b5g hu0, b5g hu1']
    rw [hm]
    have m0 := List.mem_of_getElem? hu0
    have m1 := List.mem_of_getElem? hu1'
    refine a8 a0k ?_
    refine b6 (ld1 Tryz.isAgg51 (I1.at1 (o := 2) (vs := [vs e.m6]) (nb rfl) rfl)) ?_
    refine a8 (K9 ha5 _ _ _ _ (by decide) hlt) ?_
    refine b6 (ldA (vs := f4 x) Tryz.isAgg53 Tryz.sizeOf53 rfl (I1.atH hA5)) ?_
    refine s6 (cap := []) (fun args w => Tryz.call133 args w) ?_
    refine (b8m hk hev (hae u m0) (A7 hf.2 (List.mem_append_left _ m0)) hx (hu2.mem (List.mem_append_left _ m0))).use hr ho (I1.bring 1) (fun a σ2 F2 w3 e1 hr2 J => ?_) fun st wr σ2 F2 w3 e1 hr2 J => ?_
    ·rw [R0 e1]
     obtain ⟨ha64, ho2⟩ := a4r (hE u m0) ho e1
     refine a8 a0k ?_
     refine b6 (ld1 Tryz.isAgg51 ((J.bring 1).at1 (o := 2) (vs := [vs e.m6]) (nb rfl) rfl)) ?_
     refine a8 (K9 ha6 _ _ _ _ (by decide) hlt2) ?_
     refine b6 (ldA (vs := f4 x2) Tryz.isAgg53 Tryz.sizeOf53 rfl (J.atH hA6)) ?_
     refine s6 (cap := []) (fun args w => Tryz.call133 args w) ?_
     refine (b8m hk hev (hae u2 m1) (A7 hf.2 (List.mem_append_left _ m1)) hx2 (hu2.mem (List.mem_append_left _ m1))).use hr2 ho2 J (fun b σ3 F3 w4 e2 hr3 J3 => ?_) fun st wr σ3 F3 w4 e2 hr3 J3 => ?_
     ·rw [R0 e2]
      obtain ⟨hb64, ho3⟩ := a4r (hE u2 m1) ho2 e2
      refine s6 (cap := []) (fun args w => Tryz.call132 args w) ?_
      refine (a8D hk).use hr3 ho3 J3 (fun _ σ4 F4 w5 e3 hr4 J4 => ?_) fun st wr σ4 F4 w5 e3 hr4 J4 => ?_
      ·rw [R0 e3]
       refine a8 a5w ?_
       refine b6 (ld1 Tryz.isAgg3 ((J4.bring 1).at1 (o := 1) (vs := [vi e.fOp]) (nb rfl) rfl)) ?_
       refine s6 (cap := []) (fun args w => Tryz.call73 args w) ?_
       refine R6 (Fi := []) (Fr := [_, _]) J4 (c3Q (K := fun r0 H' => r0 = cmpS e.fOp a b ∧ H' = H) ⟨rfl, rfl⟩) (fun v H3 Fo w6 I3 l3 k3 q => ?_) (fun _ _ _ _ _ q => q.elim)
       obtain ⟨r0, rfl, rfl, rfl, rfl⟩ := q
       exact ⟨_, _, dr I3, _, σ4, F4, rfl, rfl, rfl, hr4, rfl⟩
      ·exact ⟨_, _, dr J4, st, wr, σ4, F4, U4 e3, rfl, rfl, hr4, rfl⟩
     ·exact ⟨_, _, dr J3, st, wr, σ3, F3, U4 e2, rfl, rfl, hr3, rfl⟩
    ·exact ⟨_, _, dr J, st, wr, σ2, F2, U4 e1, rfl, rfl, hr2, rfl⟩
   ·have hm : cvN e.b7 e.fOp (es.map evT) (ps.map cvT) = bnd stepM fun _ => ret (decide (e.b7 = 1)) := by unfold cvN; rw [if_neg c4, if_neg c5, if_neg c6, if_neg c3]
    rw [hm]
    refine s6 (cap := []) (fun args w => Tryz.call132 args w) ?_
    refine (a8D hk).use hr ho (I1.bring 1) (fun _ σ4 F4 w5 e3 hr4 J4 => ?_) fun st wr σ4 F4 w5 e3 hr4 J4 => ?_
    ·refine a8 a5Z ?_
     refine b6 (ld1 Tryz.isAgg3 ((J4.bring 1).at1 (o := 0) (vs := [vi e.b7]) (nb rfl) rfl)) ?_
     refine a8 (f9 _ _ _ _ _ _) ?_
     exact ⟨_, _, dr J4, _, σ4, F4, by rw [R0 e3]; rfl, rfl, rfl, hr4, rfl⟩
    ·exact ⟨_, _, dr J4, st, wr, σ4, F4, U4 e3, rfl, rfl, hr4, rfl⟩
end
end Go.Proofs.YtnhkdkcgdcgmdaaGreatDoor
