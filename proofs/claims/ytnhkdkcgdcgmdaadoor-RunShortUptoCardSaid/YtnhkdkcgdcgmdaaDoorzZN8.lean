/- A runner's expressions. Off the readings; printed by mkn8.py. -/
import Derived.Test.YtnhkdkcgdcgmdaaDoorzZN4
namespace Go.Proofs.YtnhkdkcgdcgmdaaDoor
open Go.RowKit
set_option maxRecDepth 100000
set_option maxHeartbeats 4000000
theorem Inv.p1 {w0 w : World} {ps : Nat → Prop} {H0 H : Hp} {Fs : List Frag} {A B : Frag} (h : A.Perm B) (I : Inv w0 ps H0 H (A :: Fs) w) : Inv w0 ps H0 H (B :: Fs) w := I.perm (by simp only [List.flatten_cons]; exact h.symm.append_right _)
section
variable {k0 : Int} {ev0 : Nat} {ns ars : List ByteArray} {H : Hp} {g : Nat} {X : Cx}
theorem c6E {e : i4} {t : PT} (he : EH H e t) (ha : Ar t) {K : Int → Bool → Hp → Prop} (h : K (cstP t).1 (cstP t).2 H) : a5u e H K := b1u _ (e2M he ha h)
theorem c7B {σ : St} {x : ByteArray} (ho : Okst k0 ev0 ns ars σ) (hx : x ∈ ns) : ∃ v, lk x σ.vars = some v ∧ getM x σ = .ok v σ := by
  rw [← ho.vs] at hx
  obtain ⟨v, hv⟩ := b5A hx
  exact ⟨v, hv, by unfold getM; rw [hv]; rfl⟩
theorem c5V {e : i4} {t : PT} (he : EH H e t) (ha : Ar t) (hn : Nm ns ars (uT t)) {σ : St} {F : Frag} (hr : RnF g X σ H F) (ho : Okst k0 ev0 ns ars σ) :
    Ct Tryd.prog 130 [rP g, .agg (d5 e).toArray] H [F] (fun v H' Fo => ∃ n : Int, v = .tuple #[vi n, .bool (plainX t)] ∧ (plainX t = true → evT t σ = .ok n σ) ∧ H' = H ∧ Fo = [F]) noQE := by
  intro w I
  refine e5i ?_
  unfold d7P
  have hcp := c6E he ha (K := fun a b H' => a = (cstP t).1 ∧ b = (cstP t).2 ∧ H' = H) ⟨rfl, rfl, rfl⟩
  obtain ⟨ts, rfl, hl⟩ := he.inv
  refine M5 I (cs := d5 e) rfl fun g1 w1 I1 _ => ?_
  refine a7 W0 ?_
  refine d6 (ld1 Tryd.isAgg3 (I1.at1 (o := 0) (vs := [vi e.d9]) (nb rfl) rfl)) ?_
  refine a7 (l0 _ _ _ _ _ _) ?_
  refine j7 (fun c => ?_) (fun c => ?_)
  · obtain ⟨sc, ev, Fe, Fv, Fa, W, rfl⟩ := hr
    have hx : e.g7 ∈ ns := by
      have h1 := hn.own.1
      unfold useL at h1
      rw [c] at h1
      exact (h1 ⟨e.g7, false⟩ (by simp)).2 rfl
    obtain ⟨v, hv, hg⟩ := c7B ho hx
    obtain ⟨g2, Fr, hlv, hp, _⟩ := W.hvs.get hv
    refine Z9 I1 fun w2 I2 => ?_
    have I3 := (I2.bring 1).un4
    have I4 := (((I3.bring 2).p1 hp).un2 : Inv w _ H H [bx g2 2 [vi v], Fr, bx g 90 (rcs X σ sc ev), Fe, Fa, bx g1 24 (d5 e)] w2)
    refine m4 (r5 _) ?_
    refine m4 a7F ?_
    refine m4 a4g ?_
    refine u9 (ld1 Tryd.isAgg87 (I3.at1 (o := 4) (vs := [.map X.mv]) (nb rfl) rfl)) ?_
    refine u9 (ld1 Tryd.isAgg9 (I2.at1 (o := 2) (vs := [.string e.g7]) (nb rfl) rfl)) ?_
    refine b0e (keyS Tryd.underlying9) Tryd.underlying87 (z := (none : Option Addr)) (fun w => Tryd.zeroValue91 w) I2 W.hmv e.g7 ?_
    rw [hlv, Option.getD_some]
    refine m4 (r5 _) ?_
    refine u9 (ld1 Tryd.isAgg2 (I4.at1 (o := 0) (vs := [vi v]) (nb rfl) rfl)) ?_
    have hq : plainX (eN e.d9 e.K2 e.g7 ts) = true := by
      have := b8U (k := e.d9) (n := e.K2) (s := e.g7) (cs := ts) (by omega) (by omega)
      unfold eN at this ⊢
      unfold plainX
      rw [this, c]; rfl
    refine ⟨_, _, (I2.bring 1).bring 1 |>.drop, v, ?_, fun _ => ?_, rfl, rfl⟩
    · rw [hq]
    · rw [b4r]
      unfold evN
      rw [b8U (by omega) (by omega)]
      dsimp only
      rw [if_pos c, hg]
  · refine d6 (ldA (vs := d5 e) Tryd.isAgg24 Tryd.sizeOf24 rfl (I1.at1 (o := 0) (nb rfl) rfl)) ?_
    refine d8 (cap := []) (fun args w => Tryd.call146 args w) ?_
    refine m9 (Fi := []) (Fr := [bx g1 24 (d5 e), F]) I1 hcp (fun v H3 Fo w3 I3 l3 k3 q => ?_) (fun _ _ _ _ _ q => q.elim)
    obtain ⟨r0, r1, rfl, rfl, rfl, rfl, rfl⟩ := q
    refine a7 (o2 _ 0 _ rfl) ?_
    refine a7 (o2 _ 1 _ rfl) ?_
    have hq : plainX (eN e.d9 e.K2 e.g7 ts) = (cstP (eN e.d9 e.K2 e.g7 ts)).2 := by
      have : plainX (eN e.d9 e.K2 e.g7 ts) = (cst (eN e.d9 e.K2 e.g7 ts)).isSome := by
        unfold eN plainX
        simp [c]
      rw [this]
      unfold cstP
      cases cst (eN e.d9 e.K2 e.g7 ts) <;> rfl
    refine ⟨_, _, I3.drop, (cstP (eN e.d9 e.K2 e.g7 ts)).1, by rw [hq]; rfl, fun h => ?_, rfl, rfl⟩
    rw [hq] at h
    cases hc : cst (eN e.d9 e.K2 e.g7 ts) with
    | none => unfold cstP at h; rw [hc] at h; cases h
    | some v => rw [c0B hc]; unfold cstP; rw [hc]; rfl
def opG (k : Int) (s : ByteArray) (l : List Int) : M Int := if k = 3 then inM else if k = 4 then loadM s (l.getD 0 0) else bnd stepM fun _ => toldM (opS (k - 2) (l.getD 0 0) (l.getD 1 0))
theorem g2g {k n : Int} {s : ByteArray} {cs : List PT} (h : plainX (eN k n s cs) = false) : evT (eN k n s cs) = bnd (evTs cs) (opG k s) := by
  rw [b4r]
  unfold evN
  unfold eN plainX at h
  rw [Bool.or_eq_false_iff] at h
  have hc : cst (eN k n s cs) = none := by
    unfold eN
    cases hc : cst (PT.mk (.expr k n s cs.length) cs) with
    | none => rfl
    | some v => rw [hc] at h; cases h.1
  rw [hc]
  dsimp only
  rw [if_neg (of_decide_eq_false h.2)]
  rfl
theorem a1B {α : Type} {G : α → Prop} {m : M α} {σ σ' : St} {a : α} (hc : Cm ns ars G m) (ho : Okst k0 ev0 ns ars σ) (e : m σ = .ok a σ') : G a ∧ Okst k0 ev0 ns ars σ' := by
  have := hc.safe σ ho
  rw [e] at this
  exact ⟨this.1, this.2.1⟩
theorem d3l {cs : List PT} {i : Nat} {t : PT} (h : cs[i]? = some t) (xs : List Int) : bnd (evTs (cs.drop i)) (fun l2 => ret (xs ++ l2)) = bnd (evT t) fun v => bnd (evTs (cs.drop (i + 1))) fun l2 => ret ((xs ++ [v]) ++ l2) := by
  have : cs.drop i = t :: cs.drop (i + 1) := by
    have hi := D2 h
    rw [List.drop_eq_getElem_cons hi]
    congr 1
    rw [List.getElem?_eq_getElem hi] at h
    exact Option.some.inj h
  rw [this, evTs]
  simp only [E9, a0Q, List.append_assoc, List.singleton_append]
variable (hk : k0 ≤ 1000000) (hev : ev0 ≤ 1000000)
include hk hev
theorem f8l {e : i4} {xs : List Int} {sl : Sl} {Fx : Frag} {g1 : Nat} {w0 : World} {ps : Nat → Prop} {w : World} {σ : St} {F : Frag} {R : Value → World → Prop} {E : Pan} (hk1 : e.d9 = 3 ∨ e.d9 = 4 ∨ e.d9 = 5 ∨ (6 ≤ e.d9 ∧ e.d9 ≤ 10)) (h4 : e.d9 = 4 → e.g7 ∈ ars ∧ 1 ≤ xs.length) (h5 : e.d9 = 5 → 1 ≤ xs.length) (h6 : 6 ≤ e.d9 → 2 ≤ xs.length)
    (hrow : RowL 2 1 ci sl xs Fx) (hxi : ∀ x ∈ xs, o0 x) (hr : RnF g X σ H F) (ho : Okst k0 ev0 ns ars σ) (I : Inv w0 ps H H [F, bx g1 24 (d5 e), Fx] w)
    (hR : ∀ a σ' F' w', opG e.d9 e.g7 xs σ = .ok a σ' → RnF g X σ' H F' → Inv w0 ps H H [F'] w' → R (vi a) w')
    (hE : ∀ st wr σ' F' w', opG e.d9 e.g7 xs σ = .stop st wr σ' → RnF g X σ' H F' → Inv w0 ps H H [F'] w' → E [{ v := endsV st wr, recovered := false }] w') : c0K (rP g) (rP g1) (vs sl) w R E := by
  unfold c0K
  intro _
  have hxl := hrow.2.1
  have dr : ∀ {F' : Frag} {w' : World}, Inv w0 ps H H [F', bx g1 24 (d5 e), Fx] w' → Inv w0 ps H H [F'] w' := fun J => ((J.bring 2).drop.bring 1).drop
  refine a7 W0 ?_
  refine d6 (ld1 Tryd.isAgg3 ((I.bring 1).at1 (o := 0) (vs := [vi e.d9]) (nb rfl) rfl)) ?_
  refine a7 (l0 _ _ _ _ _ _) ?_
  refine j7 (fun c3 => ?_) (fun c3 => ?_)
  · have hG : opG e.d9 e.g7 xs = inM := by unfold opG; rw [if_pos c3]
    rw [hG] at hR hE
    refine d8 (cap := []) (fun args w => Tryd.call147 args w) ?_
    refine (d8i hk hev).use hr ho I (fun a σ1 F1 w1 e1 hr1 J => ?_) fun st wr σ1 F1 w1 e1 hr1 J => ?_
    · exact hR _ _ _ _ e1 hr1 (dr J)
    · exact hE _ _ _ _ _ e1 hr1 (dr J)
  refine a7 (l0 _ _ _ _ _ _) ?_
  refine j7 (fun c4 => ?_) (fun c4 => ?_)
  · obtain ⟨hx, hx1⟩ := h4 c4
    have hG : opG e.d9 e.g7 xs = loadM e.g7 (xs.getD 0 0) := by unfold opG; rw [if_neg c3, if_pos c4]
    rw [hG] at hR hE
    obtain ⟨i, hi⟩ := u4 (l := xs) (i := 0) (by omega)
    have hi2 : xs.getD 0 0 = i := by rw [List.getD_eq_getElem?_getD, hi]; rfl
    rw [hi2] at hR hE
    obtain ⟨gx, arr, hax, _⟩ := hrow.addr hi
    refine Z9 I fun w2 I2 => ?_
    refine m4 a4g ?_
    refine m4 (T0 hax _ _ _ _ (Int.le_refl 0) (by omega)) ?_
    refine u9 (ld1 Tryd.isAgg9 ((I2.bring 1).at1 (o := 2) (vs := [.string e.g7]) (nb rfl) rfl)) ?_
    refine u9 (ld1 Tryd.isAgg2 (hrow.atW (I2.bring 2) hax hi)) ?_
    refine d8 (cap := []) (fun args w => Tryd.call133 args w) ?_
    unfold loadM at hR hE
    refine (c7A hk hx).use hr ho I2 (fun a σ1 F1 w1 e1 hr1 J => ?_) fun st wr σ1 F1 w1 e1 hr1 J => ?_
    · rw [G7 e1] at hR
      have hi64 : o0 i := hxi i (List.mem_of_getElem? hi)
      have ho1 := (a1B (Cm.bnd .step fun _ _ => .item hx hi64) ho e1).2
      have hb : ¬ (i < 0 ∨ ((rowOf e.g7 σ1).length : Int) ≤ i) := by
        unfold itemM at e1
        obtain ⟨_, s1, _, e2⟩ := b4s.1 e1
        unfold boundM at e2
        split at e2
        · cases e2
        · rename_i hb; cases e2; exact hb
      obtain ⟨sc, ev, Fe, Fv, Fa, W, rfl⟩ := hr1
      obtain ⟨sl2, F2, Fr, hl2, hrow2, hp2, _⟩ := W.has.get (c0O ho1 hx)
      obtain ⟨v, hv⟩ := u4 (l := rowOf e.g7 σ1) (i := i.toNat) (by omega)
      have hg := c0N hl2 hrow2 hv
      have J2 := J.un4
      have J3 := ((J2.bring 3).p1 hp2).un2
      refine m4 (r5 _) ?_
      refine u9 (ld1 Tryd.isAgg2 (hrow2.atW J3 hg hv)) ?_
      refine hR v σ1 _ _ ?_ ⟨sc, ev, Fe, Fv, Fa, W, rfl⟩ (dr J)
      unfold cellM
      rw [List.getD_eq_getElem?_getD, hv]; rfl
    · exact hE _ _ _ _ _ (K0 e1) hr1 (dr J)
  have hG : opG e.d9 e.g7 xs = bnd stepM fun _ => toldM (opS (e.d9 - 2) (xs.getD 0 0) (xs.getD 1 0)) := by unfold opG; rw [if_neg c3, if_neg c4]
  rw [hG] at hR hE
  refine d8 (cap := []) (fun args w => Tryd.call131 args w) ?_
  refine (a5y hk).use hr ho I (fun a σ1 F1 w1 e1 hr1 J => ?_) fun st wr σ1 F1 w1 e1 hr1 J => ?_
  case refine_2 => exact hE _ _ _ _ _ (K0 e1) hr1 (dr J)
  rw [G7 e1] at hR hE
  have ho1 := (a1B .step ho e1).2
  clear e1 hr ho I hG
  obtain ⟨x0, hx0⟩ := u4 (l := xs) (i := 0) (by omega)
  have hd0 : xs.getD 0 0 = x0 := by rw [List.getD_eq_getElem?_getD, hx0]; rfl
  have hi0 : o0 x0 := hxi _ (List.mem_of_getElem? hx0)
  rw [hd0] at hR hE
  obtain ⟨gx, arr, hax, _⟩ := hrow.addr hx0
  refine a7 W0 ?_
  refine d6 (ld1 Tryd.isAgg3 ((J.bring 1).at1 (o := 0) (vs := [vi e.d9]) (nb rfl) rfl)) ?_
  refine a7 (l0 _ _ _ _ _ _) ?_
  refine j7 (fun c5 => ?_) (fun c5 => ?_)
  · refine a7 (T0 hax _ _ _ _ (Int.le_refl 0) (by omega)) ?_
    refine d6 (ld1 Tryd.isAgg2 (hrow.atW (J.bring 2) hax hx0)) ?_
    refine d8 (cap := []) (fun args w => Tryd.call101 args w) ?_
    have hop : opS (e.d9 - 2) x0 (xs.getD 1 0) = fit (-x0) := by rw [c5]; rfl
    rw [hop] at hR hE
    refine m9 (Fi := []) (Fr := [_, _, _]) J (c9s (K := fun r0 r1 H' => r0 = (fit (-x0)).1 ∧ r1 = (fit (-x0)).2 ∧ H' = H) hi0 ⟨rfl, rfl, rfl⟩) (fun v H3 Fo w3 I3 l3 k3 q => ?_) (fun _ _ _ _ _ q => q.elim)
    obtain ⟨r0, r1, rfl, rfl, rfl, rfl, rfl⟩ := q
    refine a7 (o2 _ 0 _ rfl) ?_
    refine a7 (o2 _ 1 _ rfl) ?_
    refine d8 (cap := []) (fun args w => Tryd.call148 args w) ?_
    refine (a8g (fit (-x0))).use hr1 ho1 I3 (fun a σ2 F2 w2 e2 hr2 J2 => ?_) fun st wr σ2 F2 w2 e2 hr2 J2 => ?_
    · exact hR _ _ _ _ e2 hr2 (dr J2)
    · exact hE _ _ _ _ _ e2 hr2 (dr J2)
  obtain ⟨x1, hx1⟩ := u4 (l := xs) (i := 1) (by omega)
  have hd1 : xs.getD 1 0 = x1 := by rw [List.getD_eq_getElem?_getD, hx1]; rfl
  have hi1 : o0 x1 := hxi _ (List.mem_of_getElem? hx1)
  rw [hd1] at hR hE
  refine a7 (l0 _ _ _ _ _ _) ?_
  refine j7 (fun c6 => ?_) (fun c6 => ?_)
  · refine Z9 J fun w2 I2 => ?_
    refine m4 (T0 hax _ _ _ _ (Int.le_refl 0) (by omega)) ?_
    refine m4 (T0 hax _ _ _ _ (by decide) (by omega)) ?_
    refine u9 (ld1 Tryd.isAgg2 (hrow.atW (I2.bring 2) hax hx0)) ?_
    refine u9 (ld1 Tryd.isAgg2 (hrow.atW (I2.bring 2) hax hx1)) ?_
    refine d8 (cap := []) (fun args w => Tryd.call26 args w) ?_
    have hop : opS (e.d9 - 2) x0 x1 = fit (x0 + x1) := by rw [c6]; rfl
    rw [hop] at hR hE
    refine m9 (Fi := []) (Fr := [_, _, _]) I2 (c9r (K := fun r0 r1 H' => r0 = (fit (x0 + x1)).1 ∧ r1 = (fit (x0 + x1)).2 ∧ H' = H) hi0 hi1 ⟨rfl, rfl, rfl⟩) (fun v H3 Fo w3 I3 l3 k3 q => ?_) (fun _ _ _ _ _ q => q.elim)
    obtain ⟨r0, r1, rfl, rfl, rfl, rfl, rfl⟩ := q
    refine m4 (o2 _ 0 _ rfl) ?_
    refine m4 (o2 _ 1 _ rfl) ?_
    refine d8 (cap := []) (fun args w => Tryd.call148 args w) ?_
    refine (a8g (fit (x0 + x1))).use hr1 ho1 I3 (fun a σ2 F2 w4 e2 hr2 J2 => ?_) fun st wr σ2 F2 w4 e2 hr2 J2 => ?_
    · exact hR _ _ _ _ e2 hr2 (dr J2)
    · exact hE _ _ _ _ _ e2 hr2 (dr J2)
  refine a7 (l0 _ _ _ _ _ _) ?_
  refine j7 (fun c7 => ?_) (fun c7 => ?_)
  · refine Z9 J fun w2 I2 => ?_
    refine m4 (T0 hax _ _ _ _ (Int.le_refl 0) (by omega)) ?_
    refine m4 (T0 hax _ _ _ _ (by decide) (by omega)) ?_
    refine u9 (ld1 Tryd.isAgg2 (hrow.atW (I2.bring 2) hax hx0)) ?_
    refine u9 (ld1 Tryd.isAgg2 (hrow.atW (I2.bring 2) hax hx1)) ?_
    refine d8 (cap := []) (fun args w => Tryd.call27 args w) ?_
    have hop : opS (e.d9 - 2) x0 x1 = fit (x0 - x1) := by rw [c7]; rfl
    rw [hop] at hR hE
    refine m9 (Fi := []) (Fr := [_, _, _]) I2 (b8B (K := fun r0 r1 H' => r0 = (fit (x0 - x1)).1 ∧ r1 = (fit (x0 - x1)).2 ∧ H' = H) hi0 hi1 ⟨rfl, rfl, rfl⟩) (fun v H3 Fo w3 I3 l3 k3 q => ?_) (fun _ _ _ _ _ q => q.elim)
    obtain ⟨r0, r1, rfl, rfl, rfl, rfl, rfl⟩ := q
    refine m4 (o2 _ 0 _ rfl) ?_
    refine m4 (o2 _ 1 _ rfl) ?_
    refine d8 (cap := []) (fun args w => Tryd.call148 args w) ?_
    refine (a8g (fit (x0 - x1))).use hr1 ho1 I3 (fun a σ2 F2 w4 e2 hr2 J2 => ?_) fun st wr σ2 F2 w4 e2 hr2 J2 => ?_
    · exact hR _ _ _ _ e2 hr2 (dr J2)
    · exact hE _ _ _ _ _ e2 hr2 (dr J2)
  refine a7 (l0 _ _ _ _ _ _) ?_
  refine j7 (fun c8 => ?_) (fun c8 => ?_)
  · refine Z9 J fun w2 I2 => ?_
    refine m4 (T0 hax _ _ _ _ (Int.le_refl 0) (by omega)) ?_
    refine m4 (T0 hax _ _ _ _ (by decide) (by omega)) ?_
    refine u9 (ld1 Tryd.isAgg2 (hrow.atW (I2.bring 2) hax hx0)) ?_
    refine u9 (ld1 Tryd.isAgg2 (hrow.atW (I2.bring 2) hax hx1)) ?_
    refine d8 (cap := []) (fun args w => Tryd.call28 args w) ?_
    have hop : opS (e.d9 - 2) x0 x1 = fit (x0 * x1) := by rw [c8]; rfl
    rw [hop] at hR hE
    refine m9 (Fi := []) (Fr := [_, _, _]) I2 (c9t (K := fun r0 r1 H' => r0 = (fit (x0 * x1)).1 ∧ r1 = (fit (x0 * x1)).2 ∧ H' = H) hi0 hi1 ⟨rfl, rfl, rfl⟩) (fun v H3 Fo w3 I3 l3 k3 q => ?_) (fun _ _ _ _ _ q => q.elim)
    obtain ⟨r0, r1, rfl, rfl, rfl, rfl, rfl⟩ := q
    refine m4 (o2 _ 0 _ rfl) ?_
    refine m4 (o2 _ 1 _ rfl) ?_
    refine d8 (cap := []) (fun args w => Tryd.call148 args w) ?_
    refine (a8g (fit (x0 * x1))).use hr1 ho1 I3 (fun a σ2 F2 w4 e2 hr2 J2 => ?_) fun st wr σ2 F2 w4 e2 hr2 J2 => ?_
    · exact hR _ _ _ _ e2 hr2 (dr J2)
    · exact hE _ _ _ _ _ e2 hr2 (dr J2)
  refine a7 (l0 _ _ _ _ _ _) ?_
  refine j7 (fun c9 => ?_) (fun c9 => ?_)
  · refine Z9 J fun w2 I2 => ?_
    refine m4 (T0 hax _ _ _ _ (Int.le_refl 0) (by omega)) ?_
    refine m4 (T0 hax _ _ _ _ (by decide) (by omega)) ?_
    refine u9 (ld1 Tryd.isAgg2 (hrow.atW (I2.bring 2) hax hx0)) ?_
    refine u9 (ld1 Tryd.isAgg2 (hrow.atW (I2.bring 2) hax hx1)) ?_
    refine d8 (cap := []) (fun args w => Tryd.call29 args w) ?_
    have hop : opS (e.d9 - 2) x0 x1 = divS x0 x1 := by rw [c9]; rfl
    rw [hop] at hR hE
    refine m9 (Fi := []) (Fr := [_, _, _]) I2 (c9u (K := fun r0 r1 H' => r0 = (divS x0 x1).1 ∧ r1 = (divS x0 x1).2 ∧ H' = H) hi0 ⟨rfl, rfl, rfl⟩) (fun v H3 Fo w3 I3 l3 k3 q => ?_) (fun _ _ _ _ _ q => q.elim)
    obtain ⟨r0, r1, rfl, rfl, rfl, rfl, rfl⟩ := q
    refine m4 (o2 _ 0 _ rfl) ?_
    refine m4 (o2 _ 1 _ rfl) ?_
    refine d8 (cap := []) (fun args w => Tryd.call148 args w) ?_
    refine (a8g (divS x0 x1)).use hr1 ho1 I3 (fun a σ2 F2 w4 e2 hr2 J2 => ?_) fun st wr σ2 F2 w4 e2 hr2 J2 => ?_
    · exact hR _ _ _ _ e2 hr2 (dr J2)
    · exact hE _ _ _ _ _ e2 hr2 (dr J2)
  refine Z9 J fun w2 I2 => ?_
  refine m4 (T0 hax _ _ _ _ (Int.le_refl 0) (by omega)) ?_
  refine m4 (T0 hax _ _ _ _ (by decide) (by omega)) ?_
  refine u9 (ld1 Tryd.isAgg2 (hrow.atW (I2.bring 2) hax hx0)) ?_
  refine u9 (ld1 Tryd.isAgg2 (hrow.atW (I2.bring 2) hax hx1)) ?_
  refine d8 (cap := []) (fun args w => Tryd.call30 args w) ?_
  have hop : opS (e.d9 - 2) x0 x1 = remS x0 x1 := by rw [(by omega : e.d9 = 10)]; rfl
  rw [hop] at hR hE
  refine m9 (Fi := []) (Fr := [_, _, _]) I2 (c9v (K := fun r0 r1 H' => r0 = (remS x0 x1).1 ∧ r1 = (remS x0 x1).2 ∧ H' = H) ⟨rfl, rfl, rfl⟩) (fun v H3 Fo w3 I3 l3 k3 q => ?_) (fun _ _ _ _ _ q => q.elim)
  obtain ⟨r0, r1, rfl, rfl, rfl, rfl, rfl⟩ := q
  refine m4 (o2 _ 0 _ rfl) ?_
  refine m4 (o2 _ 1 _ rfl) ?_
  refine d8 (cap := []) (fun args w => Tryd.call148 args w) ?_
  refine (a8g (remS x0 x1)).use hr1 ho1 I3 (fun a σ2 F2 w4 e2 hr2 J2 => ?_) fun st wr σ2 F2 w4 e2 hr2 J2 => ?_
  · exact hR _ _ _ _ e2 hr2 (dr J2)
  · exact hE _ _ _ _ _ e2 hr2 (dr J2)
theorem c0P {t : PT} (ha : Ar t) : formT t = true → ∀ {e : i4}, EH H e t → Nm ns ars (uT t) → CR k0 ev0 ns ars 132 [rP g, .agg (d5 e).toArray] H g X (evT t) vi := by
  induction ha with
  | @mk k n s a cs har hn hc ih =>
    intro hf e he hu σ F hr ho w I
    have hA : Ar (.mk (.expr k n s a) cs) := .mk har hn hc
    obtain ⟨har, rfl⟩ := har
    obtain ⟨ts, hts, hl⟩ := he.inv
    unfold eN at hts
    injection hts with q1 q2
    injection q1 with q3 q4 q5 q6
    subst q3; subst q4; subst q5; subst q2
    clear q6
    obtain ⟨hu1, hu2⟩ := hu.own
    rw [formT, Bool.and_eq_true] at hf
    have hff : formE e.d9 e.K2 e.g7 cs.length = true := hf.1
    refine e5B ?_
    unfold d7Z
    refine M5 I (cs := d5 e) rfl fun g1 w1 I1 _ => ?_
    refine d6 (ldA (vs := d5 e) Tryd.isAgg24 Tryd.sizeOf24 rfl (I1.at1 (o := 0) (nb rfl) rfl)) ?_
    refine d8 (cap := []) (fun args w => Tryd.call130 args w) ?_
    refine m9 (Fi := [F]) (Fr := [bx g1 24 (d5 e)]) (I1.bring 1) (c5V he hA hu hr ho) (fun v H3 Fo w3 I3 l3 k3 q => ?_) (fun _ _ _ _ _ q => q.elim)
    obtain ⟨n0, rfl, hpl, rfl, rfl⟩ := q
    refine a7 (o2 _ 0 _ rfl) ?_
    refine a7 (o2 _ 1 _ rfl) ?_
    refine p5 (fun c => ?_) (fun c => ?_)
    · exact ⟨_, _, (I3.bring 1).drop, n0, σ, F, hpl c, rfl, rfl, hr, rfl⟩
    have hG : evT (eN e.d9 e.K2 e.g7 cs) = bnd (evTs cs) (opG e.d9 e.g7) := g2g c
    unfold eN at hG
    rw [hG]
    refine A8 fun j1 hx1 => ?_
    refine a7 a4e ?_
    refine d6 (ld1 Tryd.isAgg22 ((I3.bring 1).at1 (o := 3) (vs := [vs e.A7]) (nb rfl) rfl)) ?_
    refine a7 (a2O _ _ _) ?_
    have hkk : e.d9 ≠ 1 ∧ e.d9 ≠ 2 := by
      constructor
      · intro h1
        unfold plainX at c
        rw [cst, if_pos h1] at c
        cases c
      · intro h1
        unfold plainX at c
        rw [Bool.or_eq_false_iff] at c
        exact of_decide_eq_false c.2 h1
    have hk1 : (e.d9 = 3 ∨ e.d9 = 4 ∨ e.d9 = 5 ∨ (6 ≤ e.d9 ∧ e.d9 ≤ 10)) ∧ (e.d9 = 4 → cs.length = 1) ∧ (e.d9 = 5 → cs.length = 1) ∧ (6 ≤ e.d9 → cs.length = 2) := by
      obtain ⟨b1, b2, b3, b4, b5⟩ := har
      refine ⟨by omega, fun h4 => ?_, b4, b5⟩
      unfold formE at hff
      split at hff
      · cases hff
      · rw [if_neg (by omega), if_neg (by omega), if_pos (by omega)] at hff
        have := of_decide_eq_true hff
        omega
    have hbg : cs.length ≤ 1000000 := by
      obtain ⟨b1, b2, b3, b4, b5⟩ := har
      by_cases h1 : e.d9 < 5
      · have := b3 h1; omega
      · by_cases h2 : e.d9 = 5
        · have := b4 h2; omega
        · have := b5 (by omega); omega
    refine M7 (J := fun n l w' => ∃ (i : Nat) (xs : List Int) (sl : Sl) (Fx : Frag) (σi : St) (Fi : Frag), n = cs.length - i ∧ l = [vs sl, vi (i : Int)] ∧ i ≤ cs.length ∧ xs.length = i ∧ RowL 2 1 ci sl xs Fx ∧ RnF g X σi H3 Fi ∧ Okst k0 ev0 ns ars σi ∧ Inv w (inF [F]) H3 H3 [Fi, bx g1 24 (d5 e), Fx] w' ∧ evTs cs σ = bnd (evTs (cs.drop i)) (fun l2 => ret (xs ++ l2)) σi ∧ ∀ x ∈ xs, o0 x)
      ⟨_, 0, [], ⟨none, 0, 0⟩, [], σ, F, rfl, rfl, Nat.zero_le _, rfl, RowL.nil c4T c4U, hr, ho, (I3.nil.bring 2).bring 2, ?_, fun x hx => by cases hx⟩ ?_
    · rw [List.drop_zero]
      simp only [List.nil_append]
      rw [e2O]
    rintro n τ w4 next2 ⟨i, xs, sl, Fx, σi, Fi, rfl, hl4, hi, hxl, hrow, hri, hoi, I4, hev4, hxi⟩ hn2
    simp only [List.map_cons, List.map_nil, List.cons.injEq, and_true] at hl4
    obtain ⟨l1, l2⟩ := hl4
    simp only [l1, l2]
    unfold c7w
    refine a7 (C5 _ _ _ _ _ _) ?_
    refine j7 (fun c5 => ?_) (fun c5 => ?_)
    · obtain ⟨t, ht⟩ := u4 (l := cs) (i := i) (by omega)
      obtain ⟨x, hE, hxt, _⟩ := he.kid ht
      obtain ⟨g5, o5, ha5, hA5⟩ := hE
      have htm := List.mem_of_getElem? ht
      refine a7 (a1D ha5 _ _ _ _ (by omega) c5) ?_
      refine d6 (ldA (vs := d5 x) Tryd.isAgg24 Tryd.sizeOf24 rfl (I4.atH hA5)) ?_
      refine u6 I4 Tryd.zeroValue24 (cs := [(vi 0), (vi 0), (Value.string ⟨#[]⟩), (Value.slice none 0 0)]) rfl fun g6 w6 I6 _ => ?_
      refine o7 I6 Tryd.sizeOf24 (vs := (d5 x)) (cs' := (d5 x)) rfl rfl (nb rfl) rfl rfl fun w7 I7 _ => ?_
      refine d6 (ldA Tryd.isAgg24 Tryd.sizeOf24 rfl (I7.at1 (o := 0) (vs := (d5 x)) (nb rfl) rfl)) ?_
      refine d8 (cap := []) (fun args w => Tryd.call132 args w) ?_
      rw [d3l ht] at hev4
      have hcmE := cmE (ns := ns) (ars := ars) (hc t htm) (hu2.mem htm)
      refine (ih t htm (D6 hf.2 htm) hxt (hu2.mem htm)).use hri hoi (I7.bring 1) (fun a σ8 F8 w8 e8 hr8 I8 => ?_) fun st wr σ8 F8 w8 e8 hr8 I8 => ?_
      · rw [G7 e8] at hev4
        obtain ⟨ha64, ho8⟩ := a1B hcmE hoi e8
        refine U6 (e := 2) (c := ci) (xs := [a]) I8 (c6R _) rfl rfl c4T c4U (nb rfl) fun s9 F9 w9 hr9 I9 _ => ?_
        refine d1l (s := sl) (xs := xs) (I9.bring 4) hrow (hr9.srcO ((I9.bring 4).bring 1)) (by rw [List.length_singleton]; omega) fun s10 F10 w10 hr10 I10 _ => ?_
        refine a7 (J0 _ _ _ _ _ _) ?_
        rw [S9 (by omega) (by omega)]
        refine hn2 _ _ _ (show cs.length - (i + 1) < cs.length - i by omega) ⟨i + 1, xs ++ [a], s10, F10, σ8, F8, rfl, rfl, by omega, by rw [List.length_append, hxl]; rfl, hr10, hr8, ho8, ?_, hev4, fun y hy => ?_⟩
        · exact ((((I10.bring 1).drop.bring 2).drop.bring 1).bring 2 |>.bring 1)
        · rcases List.mem_append.1 hy with h | h
          · exact hxi y h
          · rw [List.mem_singleton.1 h]; exact ha64
      · refine ⟨_, _, ((((I8.bring 1).drop).bring 1).drop.bring 1).drop, st, wr, σ8, F8, ?_, rfl, rfl, hr8, rfl⟩
        rw [K0 e8] at hev4
        exact K0 hev4
    · refine hx1 _ _ ?_
      have hie : i = cs.length := by omega
      subst hie
      rw [List.drop_length, evTs, a0Q, List.append_nil] at hev4
      have hb : bnd (evTs cs) (opG e.d9 e.g7) σ = opG e.d9 e.g7 xs σi := G7 hev4
      refine f8l hk hev hk1.1 (fun h4 => ⟨?_, by have := hk1.2.1 h4; omega⟩) (fun h5 => by have := hk1.2.2.1 h5; omega) (fun h6 => by have := hk1.2.2.2 h6; omega) hrow hxi hri hoi I4 (fun a σ' F' w' e1 hr1 J => ?_) fun st wr σ' F' w' e1 hr1 J => ?_
      · unfold useL at hu1
        rw [h4] at hu1
        exact (hu1 ⟨e.g7, true⟩ (by simp)).1 rfl
      · exact ⟨_, _, J, a, σ', F', by rw [hb]; exact e1, rfl, rfl, hr1, rfl⟩
      · exact ⟨_, _, J, st, wr, σ', F', by rw [hb]; exact e1, rfl, rfl, hr1, rfl⟩
end
end Go.Proofs.YtnhkdkcgdcgmdaaDoor
