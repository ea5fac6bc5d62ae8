/- The document's run of a tree: what an expression, a condition does. Contracts off the printed formulas. -/
import Derived.Test.YtnhkdkcgdcgmdaaGreatDoorzXNs
namespace Go.Proofs.YtnhkdkcgdcgmdaaGreatDoor
open Go.RowKit
set_option maxRecDepth 100000
set_option maxHeartbeats 4000000
section
variable {H : Hp} {k0 : Int} {ev0 : Nat} {ns ars : List ByteArray} {X : Dx} {σ : St}
theorem b6T {e : m2} {t : PT} (he : EH H e t) (ha : Ar t) {K : Int → Bool → Hp → Prop} (h : K (cstP t).1 (cstP t).2 H) : a0P e H K := a9D _ (c2y he ha h)
theorem d3X {k n : Int} {s : ByteArray} {a : Nat} (h : formL (.expr k n s a) = true) : (k = 3 → a = 0) ∧ (k = 4 → a = 1) := by
 have hF : formE k n s a = true := h
 unfold formE at hF
 constructor
 ·intro e; subst e
  split at hF
  ·cases hF
  ·simp at hF; exact hF
 ·intro e; subst e
  split at hF
  ·cases hF
  ·simp at hF; omega
variable (hk : k0 ≤ 1000000) (hev : ev0 ≤ 1000000)
include hk hev
theorem b2Z {t : PT} (ha : Ar t) : formT t = true → Nm ns ars (uT t) → ∀ {e : m2} {σ : St} {H : Hp} {K : KD Int}, EH H e t → DOk k0 ev0 ns ars X σ → DxH H ns ars X → DC X (evT t) σ H K →
  B7 (dO X σ) σ.events (σ.vars.map (·.2)) (σ.arrs.map (·.2)) e H K := by
 induction ha with
 | @mk k n s a cs har hn hcs ih =>
  intro hf hu e σ H K he hd hx h
  have hA : Ar (.mk (.expr k n s a) cs) := .mk har hn hcs
  obtain ⟨ts, heq, hln⟩ := he.inv
  unfold eN at heq
  injection heq with hl hkk
  injection hl with q1 q2 q3 q4
  subst q1; subst q2; subst q3; subst q4; subst hkk
  obtain ⟨hu1, hu2⟩ := hu.own
  have hxn : (e.b7 = 2 → e.d9 ∈ ns) ∧ (e.b7 = 4 → e.d9 ∈ ars) := by
   unfold useL at hu1
   constructor
   ·intro q
    rw [q] at hu1
    exact (hu1 ⟨e.d9, false⟩ (by simp)).2 rfl
   ·intro q
    rw [q] at hu1
    exact (hu1 ⟨e.d9, true⟩ (by simp)).1 rfl
  rw [formT, Bool.and_eq_true] at hf
  have f3 := d3X hf.1
  have hcm : ∀ t ∈ cs, Cm ns ars o8 (evT t) := fun t ht => cmE (hcs t ht) (hu2.mem ht)
  have hevt : evT (.mk (.expr e.b7 e.C9 e.d9 cs.length) cs) = evN e.b7 e.d9 (cst (.mk (.expr e.b7 e.C9 e.d9 cs.length) cs)) (evTs cs) := by rw [evT]
  refine a9k _ _ _ _ _ ?_
  unfold a2P
  refine b6T he hA ?_
  cases hc : cst (.mk (.expr e.b7 e.C9 e.d9 cs.length) cs) with
  | some v =>
   rw [b4v hc]
   rw [b5e hc] at h
   exact ⟨fun _ => h.ret (Hle.refl _), fun q => by cases q⟩
  | none =>
   rw [b4w hc]
   rw [hc] at hevt
   unfold evN at hevt
   dsimp only at hevt
   refine ⟨fun q => (by cases q), fun _ => ⟨fun k2 => ?_, fun k2 => ⟨fun k3 => ?_, fun k3 => ⟨fun k4 => ?_, fun k4 => ?_⟩⟩⟩⟩
   ·
    rw [hevt, if_pos k2] at h
    refine b9m hx.nm hx.b2 (hxn.1 k2) fun j hj hfj => ?_
    rw [← hd.ok.vs] at hj hfj
    obtain ⟨v, e1, e2, _⟩ := b1E hj hfj
    refine ⟨by omega, v, by rw [Int.toNat_natCast]; exact e2, ?_⟩
    refine h.1 v σ H (Hle.refl _) ?_
    unfold getM; rw [e1]; rfl
   ·
    have h0 := f3.1 k3
    have hcs0 : cs = [] := List.length_eq_zero_iff.1 h0
    rw [hevt, if_neg k2, hcs0, evTs, b0I, if_pos k3] at h
    exact d3W hk hev hd hx h.nrm
   ·
    have h1 := f3.2 k4
    obtain ⟨u, rfl⟩ := List.length_eq_one_iff.1 h1
    have hm := List.mem_cons_self (a := u) (l := [])
    obtain ⟨x, hE, hxu, hlt⟩ := he.kid (i := 0) (t := u) rfl
    have hb : evT (.mk (.expr e.b7 e.C9 e.d9 [u].length) [u]) = bnd (evT u) fun i => bnd stepM fun _ => bnd (boundM e.d9 i) fun _ => cellM e.d9 i := by
     rw [hevt, if_neg k2, evTs, evTs]
     simp only [a5S, b0I]
     congr 1
     funext i
     rw [if_neg k3, if_pos k4]
     show loadM e.d9 i = _
     unfold loadM itemM
     rw [a5S]
    rw [hb] at h
    refine ⟨Int.le_refl _, hlt, x, hE, ?_⟩
    refine ih u hm (A7 hf.2 hm) (hu2.mem hm) hxu hd hx ⟨fun i σ1 H1 l1 e1 => ?_, fun st wr σ1 v H1 l1 e1 => ?_⟩
    ·have h1 := h.at_ l1 e1
     obtain ⟨_, hd1⟩ := hd.on (hcm u hm) e1
     have hx1 := hx.le l1
     refine a9L hk hd1 (fun e2 => ?_) fun e2 => ?_
     ·refine ⟨fun q => (by cases q), fun _ => ?_⟩
      have h2 := h1.at_ (Hle.refl _) e2
      obtain ⟨_, hd2⟩ := hd1.on .step e2
      refine b9m hx1.ls hx1.b3 (hxn.2 k4) fun j hj hfj => ?_
      rw [← hd2.ok.rs] at hj hfj
      obtain ⟨row, e3, e4, _⟩ := b1E hj hfj
      have hrow : rowOf e.d9 (stp σ1) = row := by unfold rowOf; rw [e3]; rfl
      refine ⟨by omega, row, by rw [Int.toNat_natCast]; exact e4, fun hq => ?_, fun hq => ?_⟩
      ·refine b6S ?_
       refine h2.stp (Hle.refl _) (st := 3) (wr := 3) (σ1 := stp σ1) ?_ _
       unfold boundM
       rw [hrow, if_pos (by simpa using hq)]
      ·have hnb : ¬ (i < 0 ∨ (row.length : Int) ≤ i) := by
        intro q
        rw [Bool.or_eq_false_iff, decide_eq_false_iff_not, decide_eq_false_iff_not] at hq
        exact q.elim hq.1 hq.2
       obtain ⟨v, hv⟩ := r6 (l := row) (i := i.toNat) (by omega)
       refine ⟨by omega, v, hv, ?_⟩
       have h3 := h2.at_ (Hle.refl _) (a := ()) (σ1 := stp σ1) (by unfold boundM; rw [hrow, if_neg hnb])
       refine h3.1 v (stp σ1) _ (Hle.refl _) ?_
       unfold cellM
       rw [hrow, List.getD_eq_getElem?_getD, hv]; rfl
     ·exact ⟨fun _ => h1.stp (Hle.refl _) e2 _, fun q => by cases q⟩
    ·have h1 := h.stp l1 e1
     exact b1D ⟨fun _ => h1 _, fun q => by cases q⟩
   ·
    obtain ⟨a1, a2, a3, a4, a5⟩ := har.1
    have k1 : e.b7 ≠ 1 := fun q => by rw [cst, if_pos q] at hc; cases hc
    have hk5 : 5 ≤ e.b7 := by omega
    have last : ∀ (va vb : Int) (σ2 : St) (H2 : Hp) (K2 : KD Int), o8 va → o8 vb → DOk k0 ev0 ns ars X σ2 → DC X (bnd stepM fun _ => toldM (opS (e.b7 - 2) va vb)) σ2 H2 K2 →
      E5 va vb X.sc σ2.left false false 0 0 σ2.steps σ2.events (σ2.vars.map (·.2)) (σ2.arrs.map (·.2)) X.nm X.ls ((X.scr.length - σ2.script.length : Nat) : Int) e H2 K2 := by
     intro va vb σ2 H2 K2 i1 i2 hd2 h2
     unfold E5
     refine a9L hk hd2 (fun e2 => ?_) fun e2 => ?_
     ·refine ⟨fun q => (by cases q), fun _ => ?_⟩
      have h3 := h2.at_ (Hle.refl _) e2
      have hdo : ∀ K3 : Int → Int → Hp → Prop, K3 (opS (e.b7 - 2) va vb).1 (opS (e.b7 - 2) va vb).2 H2 → a3t e.b7 va vb H2 K3 := fun K3 hk3 => by
       have := c5p (k := e.b7 - 2) (by omega) (by omega) i1 i2 hk3
       rwa [show e.b7 - 2 + 2 = e.b7 by omega] at this
      refine hdo _ ?_
      unfold toldM at h3
      refine ⟨fun hw => ?_, fun hw => ?_⟩
      ·rw [if_neg hw] at h3
       exact b6S (h3.halt (Hle.refl _) _)
      ·rw [if_pos hw] at h3
       exact h3.ret (Hle.refl _)
     ·exact ⟨fun _ => h2.stp (Hle.refl _) e2 _, fun q => by cases q⟩
    have lastoff : ∀ (va vb : Int) (st wr : Int) (σ2 : St) (H2 : Hp) (K2 : KD Int), K2 0 (dS X st wr σ2) σ2.events (σ2.vars.map (·.2)) (σ2.arrs.map (·.2)) H2 →
      E5 va vb X.sc σ2.left (!decide (st = 1)) (decide (st = 1)) (if st = 1 then 0 else st) wr σ2.steps σ2.events (σ2.vars.map (·.2)) (σ2.arrs.map (·.2)) X.nm X.ls ((X.scr.length - σ2.script.length : Nat) : Int) e H2 K2 := by
     intro va vb st wr σ2 H2 K2 hK
     unfold E5
     exact b1D ⟨fun _ => hK, fun q => by cases q⟩
    by_cases k5 : e.b7 = 5
    ·obtain ⟨u, rfl⟩ := List.length_eq_one_iff.1 (a4 k5)
     have hm := List.mem_cons_self (a := u) (l := [])
     obtain ⟨x, hE, hxu, hlt⟩ := he.kid (i := 0) (t := u) rfl
     have hb : evT (.mk (.expr e.b7 e.C9 e.d9 [u].length) [u]) = bnd (evT u) fun i => bnd stepM fun _ => toldM (opS (e.b7 - 2) i 0) := by
      rw [hevt, if_neg k2, evTs, evTs]
      simp only [a5S, b0I]
      congr 1
      funext i
      rw [if_neg k3, if_neg k4]
      rfl
     rw [hb] at h
     have hn2 : ((e.z8.n : Nat) : Int) = 1 := by rw [hln]; rfl
     refine ⟨Int.le_refl _, hlt, x, hE, ?_⟩
     refine ih u hm (A7 hf.2 hm) (hu2.mem hm) hxu hd hx ⟨fun i σ1 H1 l1 e1 => ?_, fun st wr σ1 v H1 l1 e1 => ?_⟩
     ·obtain ⟨i1, hd1⟩ := hd.on (hcm u hm) e1
      refine on8 ?_
      rw [hn2]
      exact ⟨fun q => (by cases q), fun _ => last _ _ _ _ _ i1 (by unfold o8; omega) hd1 (h.at_ l1 e1)⟩
     ·refine a9J ?_
      exact ⟨fun q => (by cases q), fun _ => lastoff _ _ _ _ _ _ _ (h.stp l1 e1 _)⟩
    ·have hk6 : 6 ≤ e.b7 := by omega
     obtain ⟨u, w, rfl⟩ : ∃ u w, cs = [u, w] := by
      have := a5 hk6
      match cs, this with
      | [u, w], _ => exact ⟨u, w, rfl⟩
     have hm := List.mem_cons_self (a := u) (l := [w])
     have hm2 : w ∈ [u, w] := List.mem_cons_of_mem _ List.mem_cons_self
     obtain ⟨x, hE, hxu, hlt⟩ := he.kid (i := 0) (t := u) rfl
     obtain ⟨x2, hE2, hxw, hlt2⟩ := he.kid (i := 1) (t := w) rfl
     have hb : evT (.mk (.expr e.b7 e.C9 e.d9 [u, w].length) [u, w]) = bnd (evT u) fun i => bnd (evT w) fun j => bnd stepM fun _ => toldM (opS (e.b7 - 2) i j) := c9W hk6
     rw [hb] at h
     have hn2 : ((e.z8.n : Nat) : Int) = 2 := by rw [hln]; rfl
     refine ⟨Int.le_refl _, hlt, x, hE, ?_⟩
     refine ih u hm (A7 hf.2 hm) (hu2.mem hm) hxu hd hx ⟨fun i σ1 H1 l1 e1 => ?_, fun st wr σ1 v H1 l1 e1 => ?_⟩
     ·obtain ⟨i1, hd1⟩ := hd.on (hcm u hm) e1
      have h1 := h.at_ l1 e1
      refine on8 ?_
      rw [hn2]
      refine ⟨fun _ => ⟨by omega, by omega, x2, hE2.le l1, ?_⟩, fun q => (by cases q)⟩
      refine ih w hm2 (A7 hf.2 hm2) (hu2.mem hm2) (hxw.le l1) hd1 (hx.le l1) ⟨fun j σ2 H2 l2 e2 => ?_, fun st wr σ2 v H2 l2 e2 => ?_⟩
      ·obtain ⟨i2, hd2⟩ := hd1.on (hcm w hm2) e2
       exact last _ _ _ _ _ i1 i2 hd2 (h1.at_ l2 e2)
      ·exact lastoff _ _ _ _ _ _ _ (h1.stp l2 e2 _)
     ·refine a9J ?_
      exact ⟨fun q => (by cases q), fun _ => lastoff _ _ _ _ _ _ _ (h.stp l1 e1 _)⟩
theorem b6U {t : PT} (ha : ArC t) : formT t = true → Nm ns ars (uT t) → ∀ {e : o0} {σ : St} {H : Hp} {K : KD Bool}, CH H e t → DOk k0 ev0 ns ars X σ → DxH H ns ars X → DC X (cvT t) σ H K →
  A0 (dO X σ) σ.events (σ.vars.map (·.2)) (σ.arrs.map (·.2)) e H K := by
 induction ha with
 | @mk k0' op0 es ps har hae hac ih =>
  intro hf hu e σ H K he hd hx h
  generalize htt : PT.mk (.cond k0' op0 es.length ps.length) (es ++ ps) = tt at he
  cases he with
  | @mk _ xs ts ys us hs hb hrl hc hcb hcl hcr =>
   injection htt with hl hkk
   injection hl with q1 q2 q3 q4
   subst q1; subst q2
   obtain ⟨rfl, rfl⟩ := List.append_inj hkk q3
   have hpr : C0 (CH H) ys ps := ⟨hcl, hcr⟩
   obtain ⟨hu1, hu2⟩ := hu.own
   rw [formT, Bool.and_eq_true] at hf
   have hff : formC e.b7 e.fOp es.length ps.length = true := hf.1
   have hcv : cvT (PT.mk (.cond e.b7 e.fOp es.length ps.length) (es ++ ps)) = cvN e.b7 e.fOp (es.map evT) (ps.map cvT) := c0L _ _ _ _
   rw [hcv] at h
   have hC : ∀ u ∈ ps, formT u = true ∧ Nm ns ars (uT u) ∧ Cm ns ars (fun _ => True) (cvT u) := fun u hm => by
    have hin := List.mem_append_right es hm
    exact ⟨A7 hf.2 hin, hu2.mem hin, (cmC (hac u hm) (A7 hf.2 hin) (hu2.mem hin)).1⟩
   have hE : ∀ u ∈ es, formT u = true ∧ Nm ns ars (uT u) ∧ Cm ns ars o8 (evT u) := fun u hm => by
    have hin := List.mem_append_left ps hm
    exact ⟨A7 hf.2 hin, hu2.mem hin, cmE (hae u hm) (hu2.mem hin)⟩
   obtain ⟨a3, a4, a5, a6⟩ := har
   refine a9l _ _ _ _ _ ?_
   unfold a2Q
   refine ⟨fun c1 => ?_, fun c1 => ⟨fun c2 => ?_, fun c2 => ⟨fun c4 => ?_, fun c4 => ⟨fun c5 => ?_, fun c5 => ⟨fun c6 => ?_, fun c6 => ?_⟩⟩⟩⟩⟩
   ·have hm : cvN e.b7 e.fOp (es.map evT) (ps.map cvT) = bnd stepM fun _ => ret true := by
     unfold cvN; rw [if_neg (by omega), if_neg (by omega), if_neg (by omega), if_neg (by omega), c1]; rfl
    rw [hm] at h
    exact a9L hk hd (fun e2 => (h.at_ (Hle.refl _) e2).ret (Hle.refl _)) fun e2 => h.stp (Hle.refl _) e2 _
   ·have hm : cvN e.b7 e.fOp (es.map evT) (ps.map cvT) = bnd stepM fun _ => ret false := by
     unfold cvN; rw [if_neg (by omega), if_neg (by omega), if_neg (by omega), if_neg (by omega), c2]; rfl
    rw [hm] at h
    exact a9L hk hd (fun e2 => (h.at_ (Hle.refl _) e2).ret (Hle.refl _)) fun e2 => h.stp (Hle.refl _) e2 _
   ·obtain ⟨u, hu0⟩ := r6 (l := ps) (i := 0) (by have := a4 c4; omega)
    obtain ⟨x, hEl, hxu, hlt⟩ := a0L hc hpr hu0
    have hm := List.mem_of_getElem? hu0
    have he : cvN e.b7 e.fOp (es.map evT) (ps.map cvT) = bnd (cvT u) fun b => ret !b := by unfold cvN; rw [if_pos c4, a3D hu0]
    rw [he] at h
    refine ⟨Int.le_refl _, hlt, x, hEl, ?_⟩
    exact ih u hm (hC u hm).1 (hC u hm).2.1 hxu hd hx ⟨fun b σ1 H1 l1 e1 => (h.at_ l1 e1).ret (Hle.refl _), fun st wr σ1 v H1 l1 e1 => h.stp l1 e1 _⟩
   ·obtain ⟨u, hu0⟩ := r6 (l := ps) (i := 0) (by have := a5 c5; omega)
    obtain ⟨u2, hu1'⟩ := r6 (l := ps) (i := 1) (by have := a5 c5; omega)
    obtain ⟨x, hEl, hxu, hlt⟩ := a0L hc hpr hu0
    obtain ⟨x2, hEl2, hxu2, hlt2⟩ := a0L hc hpr hu1'
    have hm0 := List.mem_of_getElem? hu0
    have hm1 := List.mem_of_getElem? hu1'
    have he : cvN e.b7 e.fOp (es.map evT) (ps.map cvT) = bnd (cvT u) fun b => if b = true then cvT u2 else ret false := by unfold cvN; rw [if_neg c4, if_pos c5, a3D hu0, a3D hu1']
    rw [he] at h
    refine ⟨Int.le_refl _, hlt, x, hEl, ?_⟩
    refine ih u hm0 (hC u hm0).1 (hC u hm0).2.1 hxu hd hx ⟨fun b σ1 H1 l1 e1 => ?_, fun st wr σ1 v H1 l1 e1 => ?_⟩
    ·have h1 := h.at_ l1 e1
     obtain ⟨_, hd1⟩ := hd.on (hC u hm0).2.2 e1
     refine a4L true (fun _ K' hk' => on8 hk') ?_
     refine ⟨x2, fun _ => ⟨by omega, hlt2, hEl2.le l1⟩, ?_⟩
     cases b
     ·refine ⟨fun q => (by cases q), fun _ => ?_⟩
      exact h1.ret (Hle.refl _)
     ·refine ⟨fun _ => ?_, fun q => (q rfl).elim⟩
      exact ih u2 hm1 (hC u2 hm1).1 (hC u2 hm1).2.1 (hxu2.le l1) hd1 (hx.le l1) h1.nrm
    ·refine a4L false (fun _ K' hk' => a9J hk') ?_
     refine ⟨x2, fun q => ?_, fun q => ?_, fun q => ?_⟩
     ·cases v <;> simp at q
     ·cases v <;> simp at q
     ·exact h.stp l1 e1 _
   ·obtain ⟨u, hu0⟩ := r6 (l := ps) (i := 0) (by have := a6 c6; omega)
    obtain ⟨u2, hu1'⟩ := r6 (l := ps) (i := 1) (by have := a6 c6; omega)
    obtain ⟨x, hEl, hxu, hlt⟩ := a0L hc hpr hu0
    obtain ⟨x2, hEl2, hxu2, hlt2⟩ := a0L hc hpr hu1'
    have hm0 := List.mem_of_getElem? hu0
    have hm1 := List.mem_of_getElem? hu1'
    have he : cvN e.b7 e.fOp (es.map evT) (ps.map cvT) = bnd (cvT u) fun b => if b = true then ret true else cvT u2 := by unfold cvN; rw [if_neg c4, if_neg c5, if_pos c6, a3D hu0, a3D hu1']
    rw [he] at h
    refine ⟨Int.le_refl _, hlt, x, hEl, ?_⟩
    refine ih u hm0 (hC u hm0).1 (hC u hm0).2.1 hxu hd hx ⟨fun b σ1 H1 l1 e1 => ?_, fun st wr σ1 v H1 l1 e1 => ?_⟩
    ·have h1 := h.at_ l1 e1
     obtain ⟨_, hd1⟩ := hd.on (hC u hm0).2.2 e1
     cases b
     ·refine ⟨fun _ => on8 ?_, fun q => (q rfl).elim⟩
      refine ⟨x2, fun _ => ⟨by omega, hlt2, hEl2.le l1⟩, fun _ => ?_, fun q => (q rfl).elim⟩
      refine ih u2 hm1 (hC u2 hm1).1 (hC u2 hm1).2.1 (hxu2.le l1) hd1 (hx.le l1) ⟨fun v σ2 H2 l2 e2 => ?_, fun st wr σ2 v H2 l2 e2 => ?_⟩
      ·exact h1.1 v σ2 H2 l2 e2
      ·exact h1.2 st wr σ2 v H2 l2 e2
     ·refine ⟨fun q => (by cases q), fun _ => ?_⟩
      refine ⟨x2, fun q => (by cases q), fun q => (by cases q), fun _ => ?_⟩
      exact h1.ret (Hle.refl _)
    ·cases v
     ·refine ⟨fun _ => a9J ?_, fun q => (q rfl).elim⟩
      refine ⟨x2, fun q => (by cases q), fun q => (by cases q), fun _ => ?_⟩
      exact h.stp l1 e1 _
     ·refine ⟨fun q => (by cases q), fun _ => ?_⟩
      refine ⟨x2, fun q => (by cases q), fun q => (by cases q), fun _ => ?_⟩
      exact h.stp l1 e1 _
   ·have c3 : e.b7 = 3 := by
     unfold formC at hff
     by_cases c3 : e.b7 = 3
     ·exact c3
     ·rw [if_neg c3] at hff
      simp [c1, c2, c4, c5, c6] at hff
    obtain ⟨u, hu0⟩ := r6 (l := es) (i := 0) (by have := a3 c3; omega)
    obtain ⟨u2, hu1'⟩ := r6 (l := es) (i := 1) (by have := a3 c3; omega)
    obtain ⟨x, hEl, hxu, hlt⟩ := a0L hs hrl hu0
    obtain ⟨x2, hEl2, hxu2, hlt2⟩ := a0L hs hrl hu1'
    have hm0 := List.mem_of_getElem? hu0
    have hm1 := List.mem_of_getElem? hu1'
    have he : cvN e.b7 e.fOp (es.map evT) (ps.map cvT) = bnd (evT u) fun a => bnd (evT u2) fun b => bnd stepM fun _ => ret (cmpS e.fOp a b) := by unfold cvN; rw [if_neg c4, if_neg c5, if_neg c6, if_pos c3, b5g hu0, b5g hu1']
    rw [he] at h
    have last : ∀ (va vb : Int) (σ2 : St) (H2 : Hp) (K2 : KD Bool), DOk k0 ev0 ns ars X σ2 → DC X (bnd stepM fun _ => ret (cmpS e.fOp va vb)) σ2 H2 K2 →
      E6 va vb X.sc σ2.left false false 0 0 σ2.steps σ2.events (σ2.vars.map (·.2)) (σ2.arrs.map (·.2)) X.nm X.ls ((X.scr.length - σ2.script.length : Nat) : Int) e H2 K2 := by
     intro va vb σ2 H2 K2 hd2 h2
     unfold E6
     refine a9L hk hd2 (fun e2 => ?_) fun e2 => ?_
     ·refine ⟨fun _ => c3P ?_, fun q => (q rfl).elim⟩
      exact (h2.at_ (Hle.refl _) e2).ret (Hle.refl _)
     ·refine ⟨fun q => (by cases q), fun _ => ?_⟩
      exact h2.stp (Hle.refl _) e2 _
    have lastoff : ∀ (va vb : Int) (st wr : Int) (σ2 : St) (H2 : Hp) (K2 : KD Bool), K2 false (dS X st wr σ2) σ2.events (σ2.vars.map (·.2)) (σ2.arrs.map (·.2)) H2 →
      E6 va vb X.sc σ2.left (!decide (st = 1)) (decide (st = 1)) (if st = 1 then 0 else st) wr σ2.steps σ2.events (σ2.vars.map (·.2)) (σ2.arrs.map (·.2)) X.nm X.ls ((X.scr.length - σ2.script.length : Nat) : Int) e H2 K2 := by
     intro va vb st wr σ2 H2 K2 hK
     unfold E6
     exact b1D ⟨fun q => (by cases q), fun _ => hK⟩
    refine ⟨Int.le_refl _, hlt, x, hEl, ?_⟩
    refine b2Z hk hev (hae u hm0) (hE u hm0).1 (hE u hm0).2.1 hxu hd hx ⟨fun i σ1 H1 l1 e1 => ?_, fun st wr σ1 v H1 l1 e1 => ?_⟩
    ·obtain ⟨_, hd1⟩ := hd.on (hE u hm0).2.2 e1
     have h1 := h.at_ l1 e1
     refine on8 ⟨fun _ => ⟨by omega, hlt2, x2, hEl2.le l1, ?_⟩, fun q => by cases q⟩
     refine b2Z hk hev (hae u2 hm1) (hE u2 hm1).1 (hE u2 hm1).2.1 (hxu2.le l1) hd1 (hx.le l1) ⟨fun j σ2 H2 l2 e2 => ?_, fun st wr σ2 v H2 l2 e2 => ?_⟩
     ·obtain ⟨_, hd2⟩ := hd1.on (hE u2 hm1).2.2 e2
      exact last _ _ _ _ _ hd2 (h1.at_ l2 e2)
     ·exact lastoff _ _ _ _ _ _ _ (h1.stp l2 e2 _)
    ·exact a9J ⟨fun q => (by cases q), fun _ => lastoff _ _ _ _ _ _ _ (h.stp l1 e1 _)⟩
end
section
variable {H : Hp} {k0 : Int} {ev0 : Nat} {ns ars : List ByteArray} {X : Dx} {σ : St}
theorem c6f {t : PT} (hp : plainX t = true) (σ : St) : ∃ v, evT t σ = .ok v σ := by
 cases hc : cst t with
 | some v => rw [b5e hc]; exact ⟨v, rfl⟩
 | none =>
  match t, hp, hc with
  | .mk (.expr k n s a) cs, h, hc =>
   unfold plainX at h
   rw [hc] at h
   have k2 : k = 2 := by simpa using h
   subst k2
   rw [evT, hc]
   unfold evN
   exact ⟨_, rfl⟩
abbrev KU := b8 → List d7 → List Int → List (List Int) → Hp → Prop
def DStm (k0 : Int) (ev0 : Nat) (ns ars : List ByteArray) (X : Dx) (t : PT) : Prop := ∀ {e : m7} {σ : St} {H : Hp} {K : KU}, SH H e t → DOk k0 ev0 ns ars X σ → DxH H ns ars X → DC X (rnT t) σ H (fun _ => K) →
 a0Q (dO X σ) σ.events (σ.vars.map (·.2)) (σ.arrs.map (·.2)) e H K
theorem c1w {s : Sl} {xs : List m7} {ts : List PT} (hs : SlH H 6 f8 s xs) (hb : xs.length ≤ big) (hr : C0 (SH H) xs ts) (hC : ∀ t ∈ ts, Cm ns ars (fun _ => True) (rnT t) ∧ DStm k0 ev0 ns ars X t)
  (hd : DOk k0 ev0 ns ars X σ) (hx : DxH H ns ars X) {K : KU} (h : DC X (seqM (ts.map rnT)) σ H (fun _ => K)) : E2 (dO X σ) σ.events (σ.vars.map (·.2)) (σ.arrs.map (·.2)) s H K := by
 refine a9n _ _ _ _ _ ?_
 unfold a2S
 have hn := hs.1
 have hn2 := hr.1
 simp only [big] at hb
 refine T9 (fun (z : Int × Sl × Int × Bool × Bool × Int × Int × Int × (List d7) × (List Int) × (List (List Int)) × Sl × Sl × Int) H' => Hle H H' ∧ 0 ≤ z.1 ∧ z.1 ≤ ts.length ∧
   ((∃ σi, DOk k0 ev0 ns ars X σi ∧ DC X (seqM ((ts.drop z.1.toNat).map rnT)) σi H' (fun _ => K) ∧ z.2 = (X.sc, (σi.left : Int), false, false, 0, 0, σi.steps, σi.events, σi.vars.map (·.2), σi.arrs.map (·.2), X.nm, X.ls, ((X.scr.length - σi.script.length : Nat) : Int))) ∨
    (∃ st wr σi, (∀ H2, Hle H' H2 → K (dS X st wr σi) σi.events (σi.vars.map (·.2)) (σi.arrs.map (·.2)) H2) ∧ z.2 = (X.sc, (σi.left : Int), !decide (st = 1), decide (st = 1), (if st = 1 then 0 else st), wr, σi.steps, σi.events, σi.vars.map (·.2), σi.arrs.map (·.2), X.nm, X.ls, ((X.scr.length - σi.script.length : Nat) : Int)))))
  (fun z => (ts.length - z.1).toNat) ⟨Hle.refl _, Int.le_refl _, by show (0 : Int) ≤ ts.length; omega, .inl ⟨σ, hd, h, rfl⟩⟩ ?_
 rintro ⟨i, z⟩ H1 next ⟨l1, i0, i1, hz⟩ hnx
 dsimp only at i0 i1 hz
 rcases hz with ⟨σi, hdi, hi, rfl⟩ | ⟨st, wr, σi, hi, rfl⟩
 ·unfold Q4
  by_cases hc : i < (s.n : Int)
  ·refine a4L true (fun _ K' hk' => on8 hk') ?_
   rw [decide_eq_true hc]
   refine ⟨fun _ => ?_, fun q => by cases q⟩
   obtain ⟨t, ht⟩ := r6 (l := ts) (i := i.toNat) (by omega)
   obtain ⟨x, hE, hx1, hlt⟩ := a0L hs hr ht
   have htm := List.mem_of_getElem? ht
   rw [Int.toNat_of_nonneg i0] at hE
   have hdr : ts.drop i.toNat = t :: ts.drop (i.toNat + 1) := by
    have hi2 := s8 ht
    rw [List.drop_eq_getElem_cons hi2]
    congr 1
    rw [List.getElem?_eq_getElem hi2] at ht
    exact Option.some.inj ht
   rw [hdr, List.map_cons, seqM] at hi
   refine ⟨i0, hc, x, hE.le l1, ?_⟩
   have hw : IntKind.wrap .i64 (i + 1) = i + 1 := y9 i0 (by omega)
   rw [hw]
   refine (hC t htm).2 (hx1.le l1) hdi (hx.le l1) ⟨fun _ σ2 H2 l2 e2 => ?_, fun st wr σ2 _ H2 l2 e2 => ?_⟩
   ·obtain ⟨_, hd2⟩ := hdi.on (hC t htm).1 e2
    refine hnx _ _ ⟨l1.trans l2, by dsimp only; omega, by dsimp only; omega, .inl ⟨σ2, hd2, ?_, rfl⟩⟩ (by dsimp only; omega)
    dsimp only
    rw [show (i + 1).toNat = i.toNat + 1 by omega]
    exact hi.at_ l2 e2
   ·refine hnx _ _ ⟨l1.trans l2, by dsimp only; omega, by dsimp only; omega, .inr ⟨st, wr, σ2, fun H3 l3 => hi.stp (l2.trans l3) e2 (), rfl⟩⟩ (by dsimp only; omega)
  ·have hie : i.toNat = ts.length := by omega
   rw [hie, List.drop_length, List.map_nil, seqM] at hi
   refine a4L false (fun q K' hk' => by rw [decide_eq_false hc] at q; cases q) ?_
   rw [decide_eq_false hc]
   exact ⟨fun q => (by cases q), fun _ => hi.ret (Hle.refl _)⟩
 ·unfold Q4
  refine a4L false (fun _ K' hk' => a9J hk') ?_
  have e : ((decide (i < (s.n : Int))) && (if (decide (i < (s.n : Int))) = true then false else false)) = false := by cases decide (i < (s.n : Int)) <;> rfl
  rw [e]
  exact ⟨fun q => (by cases q), fun _ => hi H1 (Hle.refl _)⟩
variable (hk : k0 ≤ 1000000) (hev : ev0 ≤ 1000000)
include hk hev
theorem d0D {ts : List PT} {e : m7} {xs : List m2} (hsE : SlH H 4 f4 e.m6 xs) (hrE : C0 (EH H) xs ts) (ht : ∀ t ∈ ts, Ar t ∧ formT t = true ∧ Nm ns ars (uT t)) (hl : ts.length = 1) (hm : e.d9 ∈ ns)
  (hd : DOk k0 ev0 ns ars X σ) (hx : DxH H ns ars X) {d : PT} {K : KU} (h : DC X (bnd (giveM (ts.getD 0 d)) (setM e.d9)) σ H (fun _ => K)) : a2u (dO X σ) σ.events (σ.vars.map (·.2)) (σ.arrs.map (·.2)) e H K := by
 obtain ⟨u, rfl⟩ := List.length_eq_one_iff.1 hl
 obtain ⟨hA, hf, hu⟩ := ht u List.mem_cons_self
 have hcm := cmE hA hu
 obtain ⟨x, hE, hxu, hlt⟩ := a0L hsE hrE (i := 0) (t := u) rfl
 refine a8X _ _ _ _ _ ?_
 unfold a2A
 refine ⟨Int.le_refl _, hlt, x, hE, ?_⟩
 have h : DC X (bnd (giveM u) (setM e.d9)) σ H (fun _ => K) := h
 have fin : ∀ (v : Int) (σ2 : St) (H2 : Hp) (K2 : KU), DOk k0 ev0 ns ars X σ2 → Hle H H2 → DC X (setM e.d9 v) σ2 H2 (fun _ => K2) →
   L3 X.nm e.d9 H2 (fun r H3 => (0 : Int) ≤ r ∧ ∃ y : Int, (σ2.vars.map (·.2))[(r : Int).toNat]? = some y ∧ K2 (dO X σ2) σ2.events ((σ2.vars.map (·.2)).set (r : Int).toNat v) (σ2.arrs.map (·.2)) H3) := by
  intro v σ2 H2 K2 hd2 l2 h2
  refine b9m (hx.le l2).nm hx.b2 hm fun j hj hfj => ?_
  rw [← hd2.ok.vs] at hj hfj
  obtain ⟨y, _, e2, e3⟩ := b1E hj hfj
  refine ⟨by omega, y, by rw [Int.toNat_natCast]; exact e2, ?_⟩
  rw [Int.toNat_natCast, ← e3 v]
  exact h2.1 () { σ2 with vars := a1w e.d9 v σ2.vars } _ (Hle.refl _) rfl
 have fstop : ∀ (b : Bool) (st wr : Int) (σ2 : St) (H2 : Hp) (K2 : KU) (v : Int), K2 (dS X st wr σ2) σ2.events (σ2.vars.map (·.2)) (σ2.arrs.map (·.2)) H2 → ∀ c : Bool,
   ((b && (!c)) = true → K2 (dS X st wr σ2) σ2.events (σ2.vars.map (·.2)) (σ2.arrs.map (·.2)) H2) ∧
   ((b && (!c)) = false → u0 (dS X st wr σ2) σ2.events (σ2.vars.map (·.2)) (σ2.arrs.map (·.2)) H2 (fun r H3 => (r = true → L3 X.nm e.d9 H3 (fun r H3 => (0 : Int) ≤ r ∧ ∃ y : Int, (σ2.vars.map (·.2))[(r : Int).toNat]? = some y ∧ K2 (dS X st wr σ2) σ2.events ((σ2.vars.map (·.2)).set (r : Int).toNat v) (σ2.arrs.map (·.2)) H3)) ∧ (r = false → K2 (dS X st wr σ2) σ2.events (σ2.vars.map (·.2)) (σ2.arrs.map (·.2)) H3))) :=
  fun b st wr σ2 H2 K2 v hK c => ⟨fun _ => hK, fun _ => a9J ⟨fun q => (by cases q), fun _ => hK⟩⟩
 have hplain : plainX u = ((cstP u).2 || decide (x.b7 = 2)) := by
  obtain ⟨cs, rfl, _⟩ := hxu.inv
  unfold eN plainX
  show ((cst _).isSome || decide (x.b7 = 2)) = _
  unfold cstP
  cases cst (PT.mk (.expr x.b7 x.C9 x.d9 cs.length) cs) <;> rfl
 unfold giveM at h
 by_cases hp : plainX u = true
 ·rw [if_pos hp, a5S] at h
  rw [hp] at hplain
  obtain ⟨v0, hv0⟩ : ∃ v, evT u σ = .ok v σ := by
   exact c6f hp σ
  refine b2Z hk hev hA hf hu hxu hd hx ⟨fun v σ1 H1 l1 e1 => ?_, fun st wr σ1 v H1 l1 e1 => ?_⟩
  ·rw [hv0] at e1
   cases e1
   have hd1 := hd
   refine b6T (hxu.le l1) hA ?_
   rw [← hplain]
   refine ⟨fun _ => ?_, fun q => (q rfl).elim⟩
   refine a9L hk hd1 (fun e2 => ?_) fun e2 => ?_
   ·refine ⟨fun q => (by cases q), fun _ => on8 ⟨fun _ => ?_, fun q => (by cases q)⟩⟩
    have h2 := h.at_ (H1 := H1) l1 e2
    have hv := b6L hp hv0 (b8N e2)
    obtain ⟨_, hd2⟩ := hd1.on .step e2
    exact fin v0 (stp σ) H1 K hd2 l1 (h2.at_ (Hle.refl _) hv)
   ·exact ⟨fun _ => h.stp l1 e2 (), fun q => (by cases q)⟩
  ·rw [hv0] at e1; cases e1
 ·rw [if_neg hp] at h
  have hp' : plainX u = false := by simpa using hp
  rw [hp'] at hplain
  refine b2Z hk hev hA hf hu hxu hd hx ⟨fun v σ1 H1 l1 e1 => ?_, fun st wr σ1 v H1 l1 e1 => ?_⟩
  ·obtain ⟨_, hd1⟩ := hd.on hcm e1
   refine b6T (hxu.le l1) hA ?_
   rw [← hplain]
   refine ⟨fun q => (by cases q), fun _ => ?_⟩
   refine ⟨fun q => (by cases q), fun _ => on8 ⟨fun _ => ?_, fun q => (by cases q)⟩⟩
   exact fin v σ1 H1 K hd1 l1 (h.at_ l1 e1)
  ·refine b6T (hxu.le l1) hA ?_
   rw [← hplain]
   refine ⟨fun q => (by cases q), fun _ => ?_⟩
   exact fstop false st wr σ1 H1 K v (h.stp l1 e1 ()) false
theorem d3Y {ts : List PT} {e : m7} {xs : List m2} (hsE : SlH H 4 f4 e.m6 xs) (hrE : C0 (EH H) xs ts) (ht : ∀ t ∈ ts, Ar t ∧ formT t = true ∧ Nm ns ars (uT t)) (hl : ts.length = 2) (hm : e.d9 ∈ ars)
  (hd : DOk k0 ev0 ns ars X σ) (hx : DxH H ns ars X) {d : PT} {K : KU} (h : DC X (bnd (evT (ts.getD 0 d)) fun i => bnd (evT (ts.getD 1 d)) fun v => storeM e.d9 i v) σ H (fun _ => K)) : a2E (dO X σ) σ.events (σ.vars.map (·.2)) (σ.arrs.map (·.2)) e H K := by
 obtain ⟨u, w, rfl⟩ : ∃ u w, ts = [u, w] := by
  match ts, hl with
  | [u, w], _ => exact ⟨u, w, rfl⟩
 obtain ⟨hA, hf, hu⟩ := ht u List.mem_cons_self
 obtain ⟨hA2, hf2, hu2⟩ := ht w (List.mem_cons_of_mem _ List.mem_cons_self)
 have hcm := cmE hA hu
 have hcm2 := cmE hA2 hu2
 obtain ⟨x, hE, hxu, hlt⟩ := a0L hsE hrE (i := 0) (t := u) rfl
 obtain ⟨x2, hE2, hxw, hlt2⟩ := a0L hsE hrE (i := 1) (t := w) rfl
 have h : DC X (bnd (evT u) fun i => bnd (evT w) fun v => bnd stepM fun _ => bnd (boundM e.d9 i) fun _ => putM e.d9 i v) σ H (fun _ => K) := h.eq (by
  show _ = bnd (evT u) fun i => bnd (evT w) fun v => storeM e.d9 i v
  congr 1; funext i; congr 1; funext v
  unfold storeM itemM
  rw [a5S])
 refine a9m _ _ _ _ _ ?_
 unfold a2R
 have last : ∀ (i v : Int) (σ2 : St) (H2 : Hp) (K2 : KU), Hle H H2 → DOk k0 ev0 ns ars X σ2 → DC X (bnd stepM fun _ => bnd (boundM e.d9 i) fun _ => putM e.d9 i v) σ2 H2 (fun _ => K2) →
   E7 i v X.sc σ2.left false false 0 0 σ2.steps σ2.events (σ2.vars.map (·.2)) (σ2.arrs.map (·.2)) X.nm X.ls ((X.scr.length - σ2.script.length : Nat) : Int) e H2 K2 := by
  intro i v σ2 H2 K2 l2 hd2 h2
  unfold E7
  refine a9L hk hd2 (fun e2 => ?_) fun e2 => ?_
  ·refine ⟨fun q => (by cases q), fun _ => ?_⟩
   have h3 := h2.at_ (Hle.refl _) e2
   obtain ⟨_, hd3⟩ := hd2.on .step e2
   refine b9m (hx.le l2).ls hx.b3 hm fun j hj hfj => ?_
   rw [← hd3.ok.rs] at hj hfj
   obtain ⟨row, e3, e4, e5⟩ := b1E hj hfj
   have hrow : rowOf e.d9 (stp σ2) = row := by unfold rowOf; rw [e3]; rfl
   refine ⟨by omega, row, by rw [Int.toNat_natCast]; exact e4, fun hq => ?_, fun hq => ?_⟩
   ·refine b6S ?_
    refine h3.stp (Hle.refl _) (st := 3) (wr := 3) (σ1 := stp σ2) ?_ ()
    unfold boundM
    rw [hrow, if_pos (by simpa using hq)]
   ·have hnb : ¬ (i < 0 ∨ (row.length : Int) ≤ i) := by
     intro q
     rw [Bool.or_eq_false_iff, decide_eq_false_iff_not, decide_eq_false_iff_not] at hq
     exact q.elim hq.1 hq.2
    obtain ⟨y, hy⟩ := r6 (l := row) (i := i.toNat) (by omega)
    refine ⟨by omega, y, hy, ?_⟩
    have h4 := h3.at_ (Hle.refl _) (a := ()) (σ1 := stp σ2) (by unfold boundM; rw [hrow, if_neg hnb])
    have e6 : (a1w e.d9 ((rowOf e.d9 (stp σ2)).set i.toNat v) (stp σ2).arrs).map (·.2) = (σ2.arrs.map (·.2)).set j ((rowOf e.d9 (stp σ2)).set i.toNat v) := e5 _
    rw [Int.toNat_natCast, ← hrow, ← e6]
    exact h4.1 () { stp σ2 with arrs := a1w e.d9 ((rowOf e.d9 (stp σ2)).set i.toNat v) (stp σ2).arrs } _ (Hle.refl _) rfl
  ·exact ⟨fun _ => h2.stp (Hle.refl _) e2 (), fun q => (by cases q)⟩
 have lastoff : ∀ (i v : Int) (st wr : Int) (σ2 : St) (H2 : Hp) (K2 : KU), K2 (dS X st wr σ2) σ2.events (σ2.vars.map (·.2)) (σ2.arrs.map (·.2)) H2 →
   E7 i v X.sc σ2.left (!decide (st = 1)) (decide (st = 1)) (if st = 1 then 0 else st) wr σ2.steps σ2.events (σ2.vars.map (·.2)) (σ2.arrs.map (·.2)) X.nm X.ls ((X.scr.length - σ2.script.length : Nat) : Int) e H2 K2 := by
  intro i v st wr σ2 H2 K2 hK
  unfold E7
  exact b1D ⟨fun _ => hK, fun q => (by cases q)⟩
 refine ⟨Int.le_refl _, hlt, x, hE, ?_⟩
 refine b2Z hk hev hA hf hu hxu hd hx ⟨fun i σ1 H1 l1 e1 => ?_, fun st wr σ1 v H1 l1 e1 => ?_⟩
 ·obtain ⟨_, hd1⟩ := hd.on hcm e1
  have h1 := h.at_ l1 e1
  refine on8 ⟨fun _ => ⟨by omega, hlt2, x2, hE2.le l1, ?_⟩, fun q => (by cases q)⟩
  refine b2Z hk hev hA2 hf2 hu2 (hxw.le l1) hd1 (hx.le l1) ⟨fun v σ2 H2 l2 e2 => ?_, fun st wr σ2 v H2 l2 e2 => ?_⟩
  ·obtain ⟨_, hd2⟩ := hd1.on hcm2 e2
   exact last _ _ _ _ _ (l1.trans l2) hd2 (h1.at_ l2 e2)
  ·exact lastoff _ _ _ _ _ _ _ (h1.stp l2 e2 ())
 ·exact a9J ⟨fun q => (by cases q), fun _ => lastoff _ _ _ _ _ _ _ (h.stp l1 e1 ())⟩
end
end Go.Proofs.YtnhkdkcgdcgmdaaGreatDoor
