/- What a well program's expressions, conditions and statements do, put together from parts. Plain. -/
import Derived.Test.YtnhkdkcgdcgmdaaDoorzZN1
namespace Go.Proofs.YtnhkdkcgdcgmdaaDoor
open Go.RowKit
set_option maxRecDepth 100000
set_option maxHeartbeats 2000000
theorem b1m (x : Int) : o0 (fit x).1 ∧ o0 (fit x).2 := by
  unfold fit
  split
  · rename_i h; exact ⟨h, by unfold o0; omega⟩
  · exact ⟨by unfold o0; omega, by unfold o0; omega⟩
theorem e2P (k a b : Int) (ha : o0 a) (hb : o0 b) : o0 (opS k a b).1 ∧ o0 (opS k a b).2 := by
  unfold opS
  split
  · exact b1m _
  split
  · exact b1m _
  split
  · exact b1m _
  split
  · exact b1m _
  split
  · unfold divS
    split
    · exact ⟨by unfold o0; omega, by unfold o0; omega⟩
    · exact b1m _
  · unfold remS
    split
    · exact ⟨by unfold o0; omega, by unfold o0; omega⟩
    · split
      · exact ⟨by unfold o0; omega, by unfold o0; omega⟩
      · rename_i h0 _
        have := e2t (c := a) hb h0
        exact ⟨by unfold o0; omega, by unfold o0; omega⟩
def Nm (ns ars : List ByteArray) (l : List Us) : Prop := ∀ u ∈ l, (u.c9A = true → u.g7 ∈ ars) ∧ (u.c9A = false → u.g7 ∈ ns)
section
variable {ns ars : List ByteArray}
theorem Nm.mem {cs : List PT} (h : Nm ns ars (uTs cs)) {t : PT} (ht : t ∈ cs) : Nm ns ars (uT t) := by
  intro u hu
  refine h u ?_
  induction cs with
  | nil => cases ht
  | cons c cs ih =>
    rw [uTs]
    rcases List.mem_cons.1 ht with e | ht
    · rw [← e]; exact List.mem_append_left _ hu
    · exact List.mem_append_right _ (ih (fun v hv => h v (by rw [uTs]; exact List.mem_append_right _ hv)) ht)
theorem Nm.own {l : Lab} {cs : List PT} (h : Nm ns ars (uT (.mk l cs))) : Nm ns ars (useL l) ∧ Nm ns ars (uTs cs) := by
  rw [uT] at h
  exact ⟨fun u hu => h u (List.mem_append_left _ hu), fun u hu => h u (List.mem_append_right _ hu)⟩
theorem e2Q {r : Int × Int} (h : o0 r.1 ∧ o0 r.2) : Cm ns ars o0 (toldM r) := by
  unfold toldM
  split
  · exact .ret h.1
  · rename_i h0
    exact .halt _ _ (.inr ⟨rfl, h.2, h0⟩)
theorem e2R {x : ByteArray} {i : Int} (hx : x ∈ ars) (hi : o0 i) : Cm ns ars o0 (loadM x i) := .bnd (.bnd .step fun _ _ => .item hx hi) fun _ _ => .cell hx hi
theorem d6j {x : ByteArray} {i v : Int} (hx : x ∈ ars) (hi : o0 i) (hv : o0 v) : Cm ns ars (fun _ => True) (storeM x i v) := .bnd (.bnd .step fun _ _ => .item hx hi) fun _ _ => .put hx hi hv
theorem c7e : ∀ {ts : List PT}, (∀ t ∈ ts, Cm ns ars o0 (evT t)) → Cm ns ars (fun l => l.length = ts.length ∧ ∀ x ∈ l, o0 x) (evTs ts)
  | [], _ => by rw [evTs]; exact .ret ⟨rfl, fun x h => by cases h⟩
  | t :: ts, h => by
    rw [evTs]
    refine .bnd (h t List.mem_cons_self) fun v hv => .bnd (c7e fun u hu => h u (List.mem_cons_of_mem _ hu)) fun l hl => .ret ⟨by rw [List.length_cons, List.length_cons, hl.1], fun x hx => ?_⟩
    rcases List.mem_cons.1 hx with e | hx
    · rw [e]; exact hv
    · exact hl.2 x hx
theorem getD_in {l : List Int} (h : ∀ x ∈ l, o0 x) (i : Nat) : o0 (l.getD i 0) := by
  rw [List.getD_eq_getElem?_getD]
  cases hq : l[i]? with
  | none => unfold o0; simp
  | some v => exact h v (List.mem_of_getElem? hq)
theorem cmE {t : PT} (ha : Ar t) : Nm ns ars (uT t) → Cm ns ars o0 (evT t) := by
  induction ha with
  | @mk k n s a cs hk hn hc ih =>
    intro hu
    obtain ⟨h1, h2⟩ := hu.own
    obtain ⟨hk, rfl⟩ := hk
    rw [evT]
    unfold evN
    cases hcs : cst (.mk (.expr k n s cs.length) cs) with
    | some v => exact .ret (f3b (.mk ⟨hk, rfl⟩ hn hc) hcs)
    | none =>
      dsimp only
      have hx : (k = 2 → s ∈ ns) ∧ (k = 4 → s ∈ ars) := by
        unfold useL at h1
        constructor
        · intro e; subst e
          exact (h1 ⟨s, false⟩ (by simp)).2 rfl
        · intro e; subst e
          exact (h1 ⟨s, true⟩ (by simp)).1 rfl
      split
      · rename_i e; exact .get (hx.1 e)
      · refine .bnd (c7e fun t ht => ih t ht (h2.mem ht)) fun l hl => ?_
        split
        · exact .input
        · split
          · rename_i e; exact e2R (hx.2 e) (getD_in hl.2 0)
          · exact .bnd .step fun _ _ => e2Q (e2P _ _ _ (getD_in hl.2 0) (getD_in hl.2 1))
theorem c7f {l : List (M Bool)} (h : ∀ m ∈ l, Cm ns ars (fun _ => True) m) (i : Nat) : Cm ns ars (fun _ => True) (l.getD i (ret false)) := by
  rw [List.getD_eq_getElem?_getD]
  cases hq : l[i]? with
  | none => exact .ret trivial
  | some v => exact h v (List.mem_of_getElem? hq)
theorem e2S {l : List (M Int)} (h : ∀ m ∈ l, Cm ns ars o0 m) (i : Nat) : Cm ns ars o0 (l.getD i (ret 0)) := by
  rw [List.getD_eq_getElem?_getD]
  cases hq : l[i]? with
  | none => exact .ret (show o0 0 by unfold o0; omega)
  | some v => exact h v (List.mem_of_getElem? hq)
theorem c7g {α : Type} {F : α → Prop} {m : M α} {k : α → M Bool} (hm : Cm ns ars F m) (hk : ∀ a, F a → Dec ns ars (k a)) : Dec ns ars (bnd m k) := by
  intro k0 ev0 s b s' hs e
  obtain ⟨a, s1, e1, e2⟩ := b4s.1 e
  have q := hm.safe s hs
  rw [e1] at q
  have := hk a q.1 _ _ _ _ _ q.2.1 e2
  have := q.2.2
  omega
theorem c0A {m : M Bool} {k : Bool → M Bool} (hm : Dec ns ars m) (hc : Cm ns ars (fun _ => True) m) (hk : ∀ b, Cm ns ars (fun _ => True) (k b)) : Dec ns ars (bnd m k) := by
  intro k0 ev0 s b s' hs e
  obtain ⟨a, s1, e1, e2⟩ := b4s.1 e
  have q := hc.safe s hs
  rw [e1] at q
  have q2 := (hk a).safe s1 q.2.1
  rw [e2] at q2
  have := hm _ _ _ _ _ hs e1
  have := q2.2.2
  omega
theorem c4S {b : Bool} : Dec ns ars (bnd stepM fun _ => ret b) := by
  intro k0 ev0 s b s' hs e
  obtain ⟨a, s1, e1, e2⟩ := b4s.1 e
  unfold stepM at e1
  split at e1
  · cases e1
  · cases e1; unfold ret at e2; cases e2; dsimp only; omega
theorem cmC {t : PT} (ha : ArC t) : formT t = true → Nm ns ars (uT t) → Cm ns ars (fun _ => True) (cvT t) ∧ Dec ns ars (cvT t) := by
  induction ha with
  | @mk k op xs ps har hx _ ih =>
    intro hf hu
    obtain ⟨_, h2⟩ := hu.own
    rw [formT, Bool.and_eq_true] at hf
    have hX : ∀ m ∈ xs.map evT, Cm ns ars o0 m := fun m hm => by
      obtain ⟨t, ht, rfl⟩ := List.mem_map.1 hm
      exact cmE (hx t ht) (h2.mem (List.mem_append_left _ ht))
    have hP : ∀ m ∈ ps.map cvT, Cm ns ars (fun _ => True) m ∧ Dec ns ars m := fun m hm => by
      obtain ⟨t, ht, rfl⟩ := List.mem_map.1 hm
      exact ih t ht (D6 hf.2 (List.mem_append_right _ ht)) (h2.mem (List.mem_append_right _ ht))
    have hl : (ps.map cvT).length = ps.length := List.length_map ..
    rw [show (PT.mk (.cond k op xs.length ps.length) (xs ++ ps)) = cN k op xs ps from rfl, b1l]
    generalize xs.map evT = X at hX
    generalize ps.map cvT = Pm at hP hl
    have hc := c7f (fun m hm => (hP m hm).1)
    unfold cvN
    have hd : ∀ i, i < ps.length → Dec ns ars (Pm.getD i (ret false)) := fun i hi => by
      rw [List.getD_eq_getElem?_getD, List.getElem?_eq_getElem (by omega)]
      exact (hP _ (List.getElem_mem _)).2
    split
    · rename_i e
      have := har.2.1 e
      exact ⟨.bnd (hc 0) fun _ _ => .ret trivial, c0A (hd 0 (by omega)) (hc 0) fun _ => .ret trivial⟩
    split
    · rename_i e
      have := har.2.2.1 e
      have hk : ∀ b, Cm ns ars (fun _ => True) (if b = true then Pm.getD 1 (ret false) else ret false) := fun b => by
        cases b
        · exact .ret trivial
        · exact hc 1
      exact ⟨.bnd (hc 0) fun b _ => hk b, c0A (hd 0 (by omega)) (hc 0) hk⟩
    split
    · rename_i e
      have := har.2.2.2 e
      have hk : ∀ b, Cm ns ars (fun _ => True) (if b = true then ret true else Pm.getD 1 (ret false)) := fun b => by
        cases b
        · exact hc 1
        · exact .ret trivial
      exact ⟨.bnd (hc 0) fun b _ => hk b, c0A (hd 0 (by omega)) (hc 0) hk⟩
    split
    · have hx := e2S hX
      exact ⟨.bnd (hx 0) fun _ _ => .bnd (hx 1) fun _ _ => .bnd .step fun _ _ => .ret trivial, c7g (hx 0) fun _ _ => c7g (hx 1) fun _ _ => c4S⟩
    · exact ⟨.bnd .step fun _ _ => .ret trivial, c4S⟩
theorem b4u : ∀ {l : List (M Unit)}, (∀ m ∈ l, Cm ns ars (fun _ => True) m) → Cm ns ars (fun _ => True) (seqM l)
  | [], _ => .ret trivial
  | m :: l, h => .bnd (h m List.mem_cons_self) fun _ _ => b4u fun x hx => h x (List.mem_cons_of_mem _ hx)
theorem d6k {l : List (M Bool)} (h : ∀ m ∈ l, Dec ns ars m) (hl : 0 < l.length) : Dec ns ars (l.getD 0 (ret false)) := by
  rw [List.getD_eq_getElem?_getD, List.getElem?_eq_getElem hl]
  exact h _ (List.getElem_mem _)
theorem cmS {t : PT} (ha : ArS t) : formT t = true → Nm ns ars (uT t) → Cm ns ars (fun _ => True) (rnT t) := by
  induction ha with
  | @mk k s ts us vs ws hts hus _ _ ih1 ih2 =>
    intro hf hu
    have hu' := hu
    unfold sN at hf hu
    obtain ⟨h1, h2⟩ := hu.own
    rw [formT, Bool.and_eq_true] at hf
    obtain ⟨hfl, hfs⟩ := hf
    have hE : ∀ t ∈ ts, Cm ns ars o0 (evT t) := fun t ht => cmE (hts t ht) (h2.mem (List.mem_append_right _ (List.mem_append_left _ ht)))
    have hC : ∀ m ∈ us.map cvT, Cm ns ars (fun _ => True) m ∧ Dec ns ars m := fun m hm => by
      obtain ⟨t, ht, rfl⟩ := List.mem_map.1 hm
      exact cmC (hus t ht) (D6 hfs (List.mem_append_left _ ht)) (h2.mem (List.mem_append_left _ ht))
    have hT : Cm ns ars (fun _ => True) (seqM (vs.map rnT)) := b4u fun m hm => by
      obtain ⟨t, ht, rfl⟩ := List.mem_map.1 hm
      have hin : t ∈ us ++ (ts ++ (vs ++ ws)) := List.mem_append_right _ (List.mem_append_right _ (List.mem_append_left _ ht))
      exact ih1 t ht (D6 hfs hin) (h2.mem hin)
    have hW : Cm ns ars (fun _ => True) (seqM (ws.map rnT)) := b4u fun m hm => by
      obtain ⟨t, ht, rfl⟩ := List.mem_map.1 hm
      have hin : t ∈ us ++ (ts ++ (vs ++ ws)) := List.mem_append_right _ (List.mem_append_right _ (List.mem_append_right _ ht))
      exact ih2 t ht (D6 hfs hin) (h2.mem hin)
    rw [b8T]
    have hl : (us.map cvT).length = us.length := List.length_map ..
    generalize us.map cvT = C at hC hl
    have hx : (k = 1 → s ∈ ns) ∧ (k = 2 → s ∈ ars) := by
      unfold useL at h1
      constructor
      · intro e; subst e
        exact (h1 ⟨s, false⟩ (by simp)).2 rfl
      · intro e; subst e
        exact (h1 ⟨s, true⟩ (by simp)).1 rfl
    have hg : ∀ i, Cm ns ars o0 (evT (ts.getD i (eN 1 0 s []))) := fun i => by
      rw [List.getD_eq_getElem?_getD]
      cases hq : ts[i]? with
      | none => rw [Option.getD_none, b4r]; exact .ret (show o0 0 by unfold o0; omega)
      | some v => exact hE v (List.mem_of_getElem? hq)
    have hc := c7f (fun m hm => (hC m hm).1) 0
    unfold stN
    split
    · rename_i e
      unfold giveM
      refine .bnd (F := o0) ?_ fun v hv => .set (hx.1 e) hv
      split
      · exact .bnd .step fun _ _ => hg 0
      · exact hg 0
    split
    · rename_i e
      exact .bnd (hg 0) fun i hi => .bnd (hg 1) fun v hv => d6j (hx.2 e) hi hv
    split
    · refine .bnd hc fun b _ => ?_
      cases b
      · exact hW
      · exact hT
    split
    · rename_i e1 e2 e3 e
      refine .loop hc hT (d6k (fun m hm => (hC m hm).2) ?_)
      subst e
      unfold formL formS at hfl
      simp at hfl
      omega
    split
    · refine .bnd hc fun b _ => .bnd (.held b) fun _ _ => ?_
      cases b
      · exact .halt _ _ (.inr ⟨rfl, by unfold o0; omega, by decide⟩)
      · exact .ret trivial
    split
    · refine .bnd hc fun b _ => ?_
      cases b
      · exact .halt _ _ (.inl ⟨rfl, rfl⟩)
      · exact .ret trivial
    · exact .step
end
end Go.Proofs.YtnhkdkcgdcgmdaaDoor
