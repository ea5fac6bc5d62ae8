/- A folded program's run: conditions, statements, the whole. Plain. -/
import Derived.Test.YtnhkdkcgdcgmdaaGreatDoorzRNm
import Derived.Test.YtnhkdkcgdcgmdaaGreatDoorzRN7
import Derived.Test.YtnhkdkcgdcgmdaaGreatDoorzRNl
namespace Go.Proofs.YtnhkdkcgdcgmdaaGreatDoor
open Go.RowKit
set_option maxRecDepth 100000
set_option maxHeartbeats 2000000
section
variable {ns ars : List ByteArray}
theorem d6N (b : Bool) : cvT (truT b) = bnd stepM fun _ => ret b := by
  unfold truT
  rw [cvT]
  unfold cvN
  cases b
  · rw [if_neg (by decide), if_neg (by decide), if_neg (by decide), if_neg (by decide)]; rfl
  · rw [if_neg (by decide), if_neg (by decide), if_neg (by decide), if_neg (by decide)]; rfl
theorem b8N {t : PT} {b : Bool} (ha : ArC t) (h : kindC t = if b = true then 1 else 2) : cvT t = bnd stepM fun _ => ret b := by
  cases ha with
  | @mk k op xs ps h1 h2 h3 =>
    have hk : k = if b = true then 1 else 2 := h
    show cvT (cN k op xs ps) = _
    rw [b0D]
    unfold cvN
    subst hk
    cases b
    · rw [if_neg (by decide), if_neg (by decide), if_neg (by decide), if_neg (by decide)]; rfl
    · rw [if_neg (by decide), if_neg (by decide), if_neg (by decide), if_neg (by decide)]; rfl
def HC (ns ars : List ByteArray) (t : PT) : Prop := Fom ns ars (cvT t) (cvT (foldT t)) ∧ Cm ns ars (fun _ => True) (cvT t) ∧ Cm ns ars (fun _ => True) (cvT (foldT t)) ∧ Dec ns ars (cvT t) ∧ Dec ns ars (cvT (foldT t)) ∧ ArC (foldT t)
theorem HC.of {t : PT} (ha : ArC t) (hg : Gd ns ars t) (h : Fom ns ars (cvT t) (cvT (foldT t))) : HC ns ars t := by
  have q1 := cmC ha hg.form hg.nm
  have hf := hg.foldC ha
  have q2 := cmC (c3W ha) hf.form hf.nm
  exact ⟨h, q1.1, q2.1, q1.2, q2.2, c3W ha⟩
theorem HC.lit {t : PT} (h : HC ns ars t) {b : Bool} (hk : kindC (foldT t) = if b = true then 1 else 2) : Fom ns ars (cvT t) (ret b) := by
  have := h.1
  rw [b8N h.2.2.2.2.2 hk] at this
  exact this.ofStep
theorem d5c (b : Bool) : Cm ns ars (fun x => x = b) (bnd stepM fun _ => ret b) := .bnd .step fun _ _ => .ret rfl
theorem f7p {a b : PT} (ha : HC ns ars a) (hb : HC ns ars b) : Fom ns ars (bnd (cvT a) fun h => if h = true then cvT b else ret false) (bnd (cvT (foldT a)) fun h => if h = true then cvT (foldT b) else ret false) :=
  Fom.bnd ha.2.1 ha.2.2.1 ha.1 fun x _ _ => by
    cases x
    · exact Fom.same (F := fun _ => True) (.ret trivial)
    · exact hb.1
theorem h4n {a b : PT} (ha : HC ns ars a) (hb : HC ns ars b) : Fom ns ars (bnd (cvT a) fun h => if h = true then ret true else cvT b) (bnd (cvT (foldT a)) fun h => if h = true then ret true else cvT (foldT b)) :=
  Fom.bnd ha.2.1 ha.2.2.1 ha.1 fun x _ _ => by
    cases x
    · exact hb.1
    · exact Fom.same (F := fun _ => True) (.ret trivial)
theorem fomC {t : PT} (ha : ArC t) : Gd ns ars t → Fom ns ars (cvT t) (cvT (foldT t)) := by
  induction ha with
  | @mk k op xs ps h1 h2 h3 ih =>
    intro hg
    have hX : ∀ t ∈ xs, HE ns ars t := fun t ht => HE.of (h2 t ht) (hg.kid (List.mem_append_left _ ht)) (fomE (h2 t ht) (hg.kid (List.mem_append_left _ ht)))
    have hP : ∀ t ∈ ps, HC ns ars t := fun t ht => HC.of (h3 t ht) (hg.kid (List.mem_append_right _ ht)) (ih t ht (hg.kid (List.mem_append_right _ ht)))
    rw [a8p]
    show Fom ns ars (cvT (cN k op xs ps)) _
    unfold foldC
    by_cases k3 : k = 3
    · rw [if_pos k3]
      subst k3
      have hl := h1.1 rfl
      match xs, hl, hX with
      | [a, b], _, hX =>
        have qa := hX a List.mem_cons_self
        have qb := hX b (List.mem_cons_of_mem _ List.mem_cons_self)
        have e : ∀ (a b : PT) (ps : List PT), cvT (cN 3 op [a, b] ps) = bnd (evT a) fun x => bnd (evT b) fun y => bnd stepM fun _ => ret (cmpS op x y) := fun a b ps => by rw [b0D]; rfl
        have self : Fom ns ars (cvT (cN 3 op [a, b] ps)) (cvT (cN 3 op [foldT a, foldT b] (ps.map foldT))) := by
          rw [e, e]
          exact Fom.bnd qa.2.1 qa.2.2 qa.1 fun x _ _ => Fom.bnd qb.2.1 qb.2.2 qb.1 fun y _ _ => Fom.same (F := fun _ => True) (.bnd .step fun _ _ => .ret trivial)
        show Fom ns ars _ (cvT (match cst (foldT a), cst (foldT b) with
          | some x, some y => truT (cmpS op x y)
          | _, _ => cN 3 op [foldT a, foldT b] (ps.map foldT)))
        cases c1 : cst (foldT a) with
        | none => exact self
        | some x =>
          cases c2 : cst (foldT b) with
          | none => exact self
          | some y =>
            dsimp only
            rw [e, d6N]
            exact Fom.drop qa.2.1 (qa.ret c1) fun _ => Fom.drop qb.2.1 (qb.ret c2) fun _ => Fom.same (F := fun _ => True) (.bnd .step fun _ _ => .ret trivial)
    · rw [if_neg k3]
      by_cases k4 : k = 4
      · rw [if_pos k4]
        subst k4
        have hl := h1.2.1 rfl
        match ps, hl, hP with
        | [a], _, hP =>
          have qa := hP a List.mem_cons_self
          have e : ∀ (a : PT) (xs : List PT), cvT (cN 4 op xs [a]) = bnd (cvT a) fun b => ret !b := fun a xs => by rw [b0D]; rfl
          show Fom ns ars _ (cvT (if kindC (foldT a) = 1 ∨ kindC (foldT a) = 2 then truT (decide (kindC (foldT a) = 2)) else cN 4 op (xs.map foldT) [foldT a]))
          by_cases c : kindC (foldT a) = 1 ∨ kindC (foldT a) = 2
          · rw [if_pos c, e, d6N]
            have hk : kindC (foldT a) = if (decide (kindC (foldT a) = 1)) = true then 1 else 2 := by
              rcases c with c | c
              · rw [c]; rfl
              · rw [c]; rfl
            have h1 := qa.1
            rw [b8N qa.2.2.2.2.2 hk] at h1
            have h2 := Fom.bnd (k := fun b => ret !b) (k' := fun b => ret !b) qa.2.1 (d5c _) h1 fun x _ _ => Fom.same (F := fun _ => True) (.ret trivial)
            rw [a9R] at h2
            have h3 : decide (kindC (foldT a) = 2) = !decide (kindC (foldT a) = 1) := by
              rcases c with c | c
              · rw [c]; rfl
              · rw [c]; rfl
            rw [h3]
            exact h2
          · rw [if_neg c, e, e]
            exact Fom.bnd qa.2.1 qa.2.2.1 qa.1 fun x _ _ => Fom.same (F := fun _ => True) (.ret trivial)
      · rw [if_neg k4]
        by_cases k5 : k = 5
        · rw [if_pos k5]
          subst k5
          have hl := h1.2.2.1 rfl
          match ps, hl, hP with
          | [a, b], _, hP =>
            have qa := hP a List.mem_cons_self
            have qb := hP b (List.mem_cons_of_mem _ List.mem_cons_self)
            have e : ∀ (a b : PT) (xs : List PT), cvT (cN 5 op xs [a, b]) = bnd (cvT a) fun h => if h = true then cvT b else ret false := fun a b xs => by rw [b0D]; rfl
            show Fom ns ars _ (cvT (if kindC (foldT a) = 1 then foldT b else if kindC (foldT a) = 2 then foldT a else if kindC (foldT b) = 1 then foldT a else cN 5 op (xs.map foldT) [foldT a, foldT b]))
            rw [e]
            by_cases c1 : kindC (foldT a) = 1
            · rw [if_pos c1]
              exact Fom.drop qa.2.1 (qa.lit (b := true) c1) fun _ => qb.1
            rw [if_neg c1]
            by_cases c2 : kindC (foldT a) = 2
            · rw [if_pos c2]
              have h1 := qa.1
              rw [b8N (b := false) qa.2.2.2.2.2 c2] at h1 ⊢
              have h2 := Fom.bnd (k := fun h => if h = true then cvT b else ret false) (k' := ret) qa.2.1 (d5c _) h1 fun x _ hx => by
                subst hx
                exact Fom.same (F := fun _ => True) (.ret trivial)
              rwa [a8r] at h2
            rw [if_neg c2]
            by_cases c3 : kindC (foldT b) = 1
            · rw [if_pos c3, ← a8r (cvT (foldT a))]
              refine Fom.bnd qa.2.1 qa.2.2.1 qa.1 fun x _ _ => ?_
              cases x
              · exact Fom.same (F := fun _ => True) (.ret trivial)
              · exact qb.lit (b := true) c3
            rw [if_neg c3, e]
            exact f7p qa qb
        · rw [if_neg k5]
          by_cases k6 : k = 6
          · rw [if_pos k6]
            subst k6
            have hl := h1.2.2.2 rfl
            match ps, hl, hP with
            | [a, b], _, hP =>
              have qa := hP a List.mem_cons_self
              have qb := hP b (List.mem_cons_of_mem _ List.mem_cons_self)
              have e : ∀ (a b : PT) (xs : List PT), cvT (cN 6 op xs [a, b]) = bnd (cvT a) fun h => if h = true then ret true else cvT b := fun a b xs => by rw [b0D]; rfl
              show Fom ns ars _ (cvT (if kindC (foldT a) = 2 then foldT b else if kindC (foldT a) = 1 then foldT a else if kindC (foldT b) = 2 then foldT a else cN 6 op (xs.map foldT) [foldT a, foldT b]))
              rw [e]
              by_cases c1 : kindC (foldT a) = 2
              · rw [if_pos c1]
                exact Fom.drop qa.2.1 (qa.lit (b := false) c1) fun _ => qb.1
              rw [if_neg c1]
              by_cases c2 : kindC (foldT a) = 1
              · rw [if_pos c2]
                have h1 := qa.1
                rw [b8N (b := true) qa.2.2.2.2.2 c2] at h1 ⊢
                have h2 := Fom.bnd (k := fun h => if h = true then ret true else cvT b) (k' := ret) qa.2.1 (d5c _) h1 fun x _ hx => by
                  subst hx
                  exact Fom.same (F := fun _ => True) (.ret trivial)
                rwa [a8r] at h2
              rw [if_neg c2]
              by_cases c3 : kindC (foldT b) = 2
              · rw [if_pos c3, ← a8r (cvT (foldT a))]
                refine Fom.bnd qa.2.1 qa.2.2.1 qa.1 fun x _ _ => ?_
                cases x
                · exact qb.lit (b := false) c3
                · exact Fom.same (F := fun _ => True) (.ret trivial)
              rw [if_neg c3, e]
              exact h4n qa qb
          · rw [if_neg k6, b0D, b0D]
            unfold cvN
            rw [if_neg k4, if_neg k5, if_neg k6, if_neg k3, if_neg k4, if_neg k5, if_neg k6, if_neg k3]
            exact Fom.same (F := fun _ => True) (.bnd .step fun _ _ => .ret trivial)
theorem e0W {t : PT} {v : Int} (h : cst t = some v) : plainX t = true := by
  obtain ⟨k, n, s, a, cs, rfl⟩ := d3B h
  unfold plainX; rw [h]; rfl
theorem e0X {t : PT} (ha : Ar t) (hf : formT t = true) (h : plainX t = true) : plainX (foldT t) = true := by
  cases hc : cst t with
  | some v =>
    have q := d4h ha hf hc
    rw [q.1]
    exact e0W (c8i q.2.1 q.2.2)
  | none =>
    cases ha with
    | @mk k n s a cs h1 h2 h3 =>
      unfold plainX at h
      rw [hc] at h
      have k2 : k = 2 := by simpa using h
      subst k2
      have hl := h1.1.2.2.1 (by decide)
      rw [foldT, foldL, a3w]
      have hx : ∀ cs : List PT, plainX (eN 2 n s cs) = true := fun cs => by unfold eN plainX; simp
      match cs, hl with
      | [], _ =>
        unfold foldN
        rw [List.map_nil, c0E (by decide) (by decide)]
        exact hx []
      | [u], _ =>
        unfold foldN
        rw [List.map_cons, List.map_nil, c0E (by decide) (by decide)]
        exact hx [foldT u]
theorem d5w {t : PT} (h : plainX t = true) (s' : St) : ∃ v, evT t s' = .ok v s' ∧ evT t { s' with left := s'.left - 1, steps := s'.steps + 1 } = .ok v { s' with left := s'.left - 1, steps := s'.steps + 1 } := by
  cases hc : cst t with
  | some v => rw [b3j hc]; exact ⟨v, rfl, rfl⟩
  | none =>
    match t, h, hc with
    | .mk (.expr k n s a) cs, h, hc =>
      unfold plainX at h
      rw [hc] at h
      have k2 : k = 2 := by simpa using h
      subst k2
      rw [evT, hc]
      unfold evN
      exact ⟨_, rfl, rfl⟩
theorem c8q : DecA ns ars stepM := by
  intro k0 ev0 s b s' _ e
  unfold stepM at e
  split at e
  · cases e
  · cases e; dsimp only; omega
theorem f7q : DecA ns ars inM := by
  intro k0 ev0 s b s' _ e
  unfold inM at e
  split at e
  · cases e
  · split at e
    · cases e
    · cases e; dsimp only; omega
theorem DecA.l {α β : Type} {F : α → Prop} {G : β → Prop} {m : M α} {k : α → M β} (hd : DecA ns ars m) (hm : Cm ns ars F m) (hk : ∀ a, F a → Cm ns ars G (k a)) : DecA ns ars (bnd m k) := by
  intro k0 ev0 s b s' hs e
  obtain ⟨a, s1, e1, e2⟩ := b4r.1 e
  have p := hm.safe s hs
  rw [e1] at p
  have p2 := (hk a p.1).safe s1 p.2.1
  rw [e2] at p2
  have := hd _ _ _ _ _ hs e1
  have := p2.2.2
  omega
theorem DecA.r {α β : Type} {F : α → Prop} {m : M α} {k : α → M β} (hm : Cm ns ars F m) (hk : ∀ a, F a → DecA ns ars (k a)) : DecA ns ars (bnd m k) := by
  intro k0 ev0 s b s' hs e
  obtain ⟨a, s1, e1, e2⟩ := b4r.1 e
  have p := hm.safe s hs
  rw [e1] at p
  have := hk a p.1 _ _ _ _ _ p.2.1 e2
  have := p.2.2
  omega
theorem decE {t : PT} (ha : Ar t) (hu : Nm ns ars (uT t)) (hp : plainX t ≠ true) : DecA ns ars (evT t) := by
  cases ha with
  | @mk k n s a cs hk hn hc =>
    obtain ⟨h1, h2⟩ := hu.own
    have hx : k = 4 → s ∈ ars := by
      unfold useL at h1
      intro e; subst e
      exact (h1 ⟨s, true⟩ (by simp)).1 rfl
    unfold plainX at hp
    rw [evT]
    unfold evN
    cases hcs : cst (.mk (.expr k n s a) cs) with
    | some v => rw [hcs] at hp; simp at hp
    | none =>
      rw [hcs] at hp
      have k2 : k ≠ 2 := by simpa using hp
      dsimp only
      rw [if_neg k2]
      refine DecA.r (b1m fun t ht => cmE (hc t ht) (h2.mem ht)) fun l hl => ?_
      split
      · exact f7q
      · split
        · rename_i e
          exact DecA.l (F := fun _ => True) (G := o8) (DecA.l (F := fun _ => True) (G := fun _ => True) c8q .step fun _ _ => .item (hx e) (getD_in hl.2 0)) (.bnd .step fun _ _ => .item (hx e) (getD_in hl.2 0)) fun _ _ => .cell (hx e) (getD_in hl.2 0)
        · exact DecA.l (F := fun _ => True) (G := o8) c8q .step fun _ _ => c7s (c7r _ _ _ (getD_in hl.2 0) (getD_in hl.2 1))
theorem d6O {t : PT} (ha : Ar t) (hu : Nm ns ars (uT t)) : Cm ns ars o8 (giveM t) := by
  unfold giveM
  split
  · exact .bnd .step fun _ _ => cmE ha hu
  · exact cmE ha hu
theorem e9z {t : PT} (ha : Ar t) (hg : Gd ns ars t) : Fom ns ars (giveM t) (giveM (foldT t)) := by
  have h := fomE ha hg
  unfold giveM
  by_cases p : plainX t = true
  · rw [if_pos p, if_pos (e0X ha hg.form p)]
    exact Fom.bnd (F := fun _ => True) (F' := fun _ => True) .step .step Fom.step fun _ _ _ => h
  · rw [if_neg p]
    by_cases p' : plainX (foldT t) = true
    · rw [if_pos p']
      exact Fom.late (cmE ha hg.nm) (decE ha hg.nm p) (d5w p') h
    · rw [if_neg p']; exact h
def HS (ns ars : List ByteArray) (t : PT) : Prop := Fom ns ars (rnT t) (seqM ((foldA t).map rnT)) ∧ Cm ns ars (fun _ => True) (rnT t) ∧ Cm ns ars (fun _ => True) (seqM ((foldA t).map rnT))
theorem HS.of {t : PT} (ha : ArS t) (hg : Gd ns ars t) (h : Fom ns ars (rnT t) (seqM ((foldA t).map rnT))) : HS ns ars t := by
  have hk := keptSt ha hg.form hg.names hg.sm
  refine ⟨h, cmS ha hg.form hg.nm, b4s fun m hm => ?_⟩
  obtain ⟨r, hr, rfl⟩ := List.mem_map.1 hm
  exact cmS (e8q ha r hr) (hk.1.form r hr) (Nm.mem (hg.nm.sub hk.2) hr)
theorem HS.list : ∀ {ts : List PT}, (∀ t ∈ ts, HS ns ars t) → Fom ns ars (seqM (ts.map rnT)) (seqM ((foldSs ts).map rnT)) ∧ Cm ns ars (fun _ => True) (seqM (ts.map rnT)) ∧ Cm ns ars (fun _ => True) (seqM ((foldSs ts).map rnT))
  | [], _ => ⟨Fom.same (F := fun _ => True) (.ret trivial), .ret trivial, .ret trivial⟩
  | t :: ts, h => by
    have h0 := h t List.mem_cons_self
    have hr := HS.list (ts := ts) fun u hu => h u (List.mem_cons_of_mem _ hu)
    have e : foldSs (t :: ts) = foldA t ++ foldSs ts := by unfold foldSs; rw [List.map_cons, List.flatten_cons]
    rw [e, List.map_append, d3C, List.map_cons, seqM]
    exact ⟨Fom.bnd h0.2.1 h0.2.2 h0.1 fun _ _ _ => hr.1, .bnd h0.2.1 fun _ _ => hr.2.1, .bnd h0.2.2 fun _ _ => hr.2.2⟩
theorem e9A (m : M Unit) : seqM [m] = m := by
  rw [seqM, seqM]; exact a8r m
theorem Fom.h8s {c : M Bool} {b : M Unit} (hc : Cm ns ars (fun _ => True) c) (hb : Cm ns ars (fun _ => True) b) (hd : Dec ns ars c) (h : Fom ns ars c (ret false)) : Fom ns ars (loopW c b) (ret ()) := by
  intro k0 ev0 k1 ev1 s s' hs hs' hf
  rw [d3w hc hb hd hs]
  exact Fom.drop (k := fun h => if h = true then Go.Proofs.YtnhkdkcgdcgmdaaGreatDoor.bnd b fun _ => loopW c b else ret ()) hc h (fun _ => Fom.same (F := fun _ => True) (.ret trivial)) _ _ _ _ _ _ hs hs' hf
theorem b2Y {k : Int} {us : List PT} (h : asked k (us.map foldT) = true) : ∃ u r, us = u :: r ∧ kindC (foldT u) = k := by
  cases us with
  | nil => cases h
  | cons u r => exact ⟨u, r, rfl, of_decide_eq_true h⟩
theorem fomS {t : PT} (ha : ArS t) : Gd ns ars t → Fom ns ars (rnT t) (seqM ((foldA t).map rnT)) := by
  induction ha with
  | @mk k s ts us vs ws hts hus hvs hws ih1 ih2 =>
    intro hg
    unfold sN at hg
    have inU : ∀ {t}, t ∈ us → t ∈ us ++ (ts ++ (vs ++ ws)) := fun h => List.mem_append_left _ h
    have inT : ∀ {t}, t ∈ ts → t ∈ us ++ (ts ++ (vs ++ ws)) := fun h => List.mem_append_right _ (List.mem_append_left _ h)
    have inV : ∀ {t}, t ∈ vs → t ∈ us ++ (ts ++ (vs ++ ws)) := fun h => List.mem_append_right _ (List.mem_append_right _ (List.mem_append_left _ h))
    have inW : ∀ {t}, t ∈ ws → t ∈ us ++ (ts ++ (vs ++ ws)) := fun h => List.mem_append_right _ (List.mem_append_right _ (List.mem_append_right _ h))
    have hV := HS.list fun t ht => HS.of (hvs t ht) (hg.kid (inV ht)) (ih1 t ht (hg.kid (inV ht)))
    have hW := HS.list fun t ht => HS.of (hws t ht) (hg.kid (inW ht)) (ih2 t ht (hg.kid (inW ht)))
    have hC : ∀ t ∈ us, HC ns ars t := fun t ht => HC.of (hus t ht) (hg.kid (inU ht)) (fomC (hus t ht) (hg.kid (inU ht)))
    have h1 := hg.nm.own.1
    have hfl : formL (.stmt k s ts.length us.length vs.length ws.length) = true := by
      have := hg.form
      rw [formT, Bool.and_eq_true] at this
      exact this.1
    have hx : (k = 1 → s ∈ ns) ∧ (k = 2 → s ∈ ars) := by
      unfold useL at h1
      constructor
      · intro e; subst e
        exact (h1 ⟨s, false⟩ (by simp)).2 rfl
      · intro e; subst e
        exact (h1 ⟨s, true⟩ (by simp)).1 rfl
    have hX : ∀ i, (Fom ns ars (evT (ts.getD i (eN 1 0 s []))) (evT ((ts.map foldT).getD i (eN 1 0 s []))) ∧ Cm ns ars o8 (evT (ts.getD i (eN 1 0 s []))) ∧ Cm ns ars o8 (evT ((ts.map foldT).getD i (eN 1 0 s [])))) ∧
        Fom ns ars (giveM (ts.getD i (eN 1 0 s []))) (giveM ((ts.map foldT).getD i (eN 1 0 s []))) ∧ Cm ns ars o8 (giveM (ts.getD i (eN 1 0 s []))) ∧ Cm ns ars o8 (giveM ((ts.map foldT).getD i (eN 1 0 s []))) := fun i => by
      rw [List.getD_eq_getElem?_getD, List.getD_eq_getElem?_getD, List.getElem?_map]
      cases hq : ts[i]? with
      | none =>
        have z : o8 0 := by unfold o8; omega
        have c1 : Cm ns ars o8 (evT (eN 1 0 s [])) := by rw [b2a]; exact .ret z
        have c2 : Cm ns ars o8 (giveM (eN 1 0 s [])) := by
          unfold giveM
          split
          · exact .bnd .step fun _ _ => c1
          · exact c1
        exact ⟨⟨Fom.same c1, c1, c1⟩, Fom.same c2, c2, c2⟩
      | some v =>
        have hv := List.mem_of_getElem? hq
        have gv := hg.kid (inT hv)
        have av := hts v hv
        exact ⟨HE.of av gv (fomE av gv), e9z av gv, d6O av gv.nm, d6O (a6r av) (gv.foldE av).nm⟩
    have hc0 : Fom ns ars ((us.map cvT).getD 0 (ret false)) (((us.map foldT).map cvT).getD 0 (ret false)) ∧ Cm ns ars (fun _ => True) ((us.map cvT).getD 0 (ret false)) ∧ Cm ns ars (fun _ => True) (((us.map foldT).map cvT).getD 0 (ret false)) := by
      cases us with
      | nil =>
        have c1 : Cm ns ars (fun _ => True) (ret false) := .ret trivial
        exact ⟨Fom.same c1, c1, c1⟩
      | cons u r =>
        have q := hC u List.mem_cons_self
        exact ⟨q.1, q.2.1, q.2.2.1⟩
    rw [a8q, c5P]
    unfold foldStm
    by_cases c1 : k = 7 ∨ (k = 6 ∧ asked 1 (us.map foldT) = true) ∨ (k = 4 ∧ asked 2 (us.map foldT) = true)
    · rw [if_pos c1]
      show Fom ns ars _ (ret ())
      unfold stN
      rcases c1 with rfl | ⟨rfl, c⟩ | ⟨rfl, c⟩
      · rw [if_neg (by decide), if_neg (by decide), if_neg (by decide), if_neg (by decide), if_neg (by decide), if_neg (by decide), ← a8r stepM]
        exact Fom.dropStep (m := ret ()) (Fom.same (F := fun _ => True) (.ret trivial))
      · rw [if_neg (by decide), if_neg (by decide), if_neg (by decide), if_neg (by decide), if_neg (by decide), if_pos rfl]
        obtain ⟨u, r, rfl, hk⟩ := b2Y c
        have q := hC u List.mem_cons_self
        exact Fom.drop q.2.1 (q.lit (b := true) hk) fun _ => Fom.same (F := fun _ => True) (.ret trivial)
      · rw [if_neg (by decide), if_neg (by decide), if_neg (by decide), if_pos rfl]
        obtain ⟨u, r, rfl, hk⟩ := b2Y c
        have q := hC u List.mem_cons_self
        exact Fom.h8s q.2.1 hV.2.1 q.2.2.2.1 (q.lit (b := false) hk)
    rw [if_neg c1]
    by_cases c2 : k = 3 ∧ asked 1 (us.map foldT) = true
    · rw [if_pos c2]
      obtain ⟨rfl, c⟩ := c2
      obtain ⟨u, r, rfl, hk⟩ := b2Y c
      have q := hC u List.mem_cons_self
      unfold stN
      rw [if_neg (by decide), if_neg (by decide), if_pos rfl]
      exact Fom.drop q.2.1 (q.lit (b := true) hk) fun _ => hV.1
    rw [if_neg c2]
    by_cases c3 : k = 3 ∧ asked 2 (us.map foldT) = true
    · rw [if_pos c3]
      obtain ⟨rfl, c⟩ := c3
      obtain ⟨u, r, rfl, hk⟩ := b2Y c
      have q := hC u List.mem_cons_self
      unfold stN
      rw [if_neg (by decide), if_neg (by decide), if_pos rfl]
      exact Fom.drop q.2.1 (q.lit (b := false) hk) fun _ => hW.1
    rw [if_neg c3, List.map_cons, List.map_nil, e9A, c5P]
    unfold stN
    by_cases k1 : k = 1
    · rw [if_pos k1, if_pos k1]
      have q := (hX 0).2
      exact Fom.bnd q.2.1 q.2.2 q.1 fun v hv _ => Fom.same (.set (hx.1 k1) hv)
    rw [if_neg k1, if_neg k1]
    by_cases k2 : k = 2
    · rw [if_pos k2, if_pos k2]
      have q := (hX 0).1
      have q' := (hX 1).1
      exact Fom.bnd q.2.1 q.2.2 q.1 fun i hi _ => Fom.bnd q'.2.1 q'.2.2 q'.1 fun v hv _ => Fom.same (d3x (hx.2 k2) hi hv)
    rw [if_neg k2, if_neg k2]
    by_cases k3 : k = 3
    · rw [if_pos k3, if_pos k3]
      refine Fom.bnd hc0.2.1 hc0.2.2 hc0.1 fun x _ _ => ?_
      cases x
      · exact hW.1
      · exact hV.1
    rw [if_neg k3, if_neg k3]
    by_cases k4 : k = 4
    · rw [if_pos k4, if_pos k4]
      subst k4
      have hul : us.length = 1 := by
        unfold formL formS at hfl
        simp at hfl
        omega
      obtain ⟨u, rfl⟩ := List.length_eq_one_iff.1 hul
      have q := hC u List.mem_cons_self
      exact Fom.loop q.2.1 hV.2.1 q.2.2.2.1 q.2.2.1 hV.2.2 q.2.2.2.2.1 q.1 hV.1
    rw [if_neg k4, if_neg k4]
    by_cases k5 : k = 5
    · rw [if_pos k5, if_pos k5]
      refine Fom.bnd hc0.2.1 hc0.2.2 hc0.1 fun x _ _ => Fom.same (F := fun _ => True) (.bnd (.held x) fun _ _ => ?_)
      cases x
      · exact .halt _ _ (.inr ⟨rfl, by unfold o8; omega, by decide⟩)
      · exact .ret trivial
    rw [if_neg k5, if_neg k5]
    by_cases k6 : k = 6
    · rw [if_pos k6, if_pos k6]
      refine Fom.bnd hc0.2.1 hc0.2.2 hc0.1 fun x _ _ => ?_
      cases x
      · exact Fom.same (F := fun _ => True) (.halt _ _ (.inl ⟨rfl, rfl⟩))
      · exact Fom.same (F := fun _ => True) (.ret trivial)
    rw [if_neg k6, if_neg k6]
    exact Fom.step
theorem e9B {q : PP} {scr : List Int} {k : Nat} (hw : (wellS q).2 = 0) (ha : ∀ t ∈ q.body, ArS t ∧ formT t = true) (hsm : q.Sm) (hs : ∀ x ∈ scr, o8 x) (hst : (runQ q scr k).st ≠ 1) :
    (runQ q.fold scr k).st = (runQ q scr k).st ∧ (runQ q.fold scr k).wr = (runQ q scr k).wr ∧ (runQ q.fold scr k).events = (runQ q scr k).events ∧ (runQ q.fold scr k).vars = (runQ q scr k).vars ∧ (runQ q.fold scr k).arrs = (runQ q scr k).arrs ∧ (runQ q.fold scr k).steps ≤ (runQ q scr k).steps := by
  have hnm := c7M hw
  have hok := e0U hw hs k
  have hi := (b4q _).1 ((b4y q).1 hw).1
  have hnam : ∀ t ∈ q.body, namesT t = true := by
    have := hi.2.2.2
    unfold PP.nodes at this
    rw [a5G, Bool.and_eq_true] at this
    exact (U8 _).1 this.2
  have hL := HS.list (ts := q.body) fun t ht => by
    have hg : Gd _ _ t := ⟨(ha t ht).2, hnam t ht, hsm t (List.mem_append_right _ ht), hnm.mem ht⟩
    exact HS.of (ha t ht).1 hg (fomS (ha t ht).1 hg)
  have h := hL.1 _ _ _ _ _ _ hok hok (Fur.refl _)
  have e : runQ q.fold scr k = ocS (endS (seqM ((foldSs q.body).map rnT) (s0 q.decls scr k))) := rfl
  rw [e]
  unfold runQ at hst ⊢
  generalize seqM ((foldSs q.body).map rnT) (s0 q.decls scr k) = r' at h ⊢
  generalize seqM (q.body.map rnT) (s0 q.decls scr k) = r at h hst ⊢
  cases r with
  | ok a s =>
    obtain ⟨s', rfl, h1, h2, h3, h4, h5, h6⟩ := h
    exact ⟨rfl, rfl, h4, congrArg (fun l => List.map Prod.snd l) h5, congrArg (fun l => List.map Prod.snd l) h6, h2⟩
  | stop x y s =>
    rcases h with h | ⟨s', rfl, h1, h2, h3, h4, h5, h6⟩
    · exact (hst h).elim
    · exact ⟨rfl, rfl, h4, congrArg (fun l => List.map Prod.snd l) h5, congrArg (fun l => List.map Prod.snd l) h6, h2⟩
end
end Go.Proofs.YtnhkdkcgdcgmdaaGreatDoor
namespace Go.Proofs.YtnhkdkcgdcgmdaaGreatDoor
open Go.RowKit
set_option maxRecDepth 100000
set_option maxHeartbeats 4000000
section
variable {H : Hp}
theorem OutH.z {o : t8} {c : Oc} (h : OutH H o c) : OutH H ⟨o.P0, o.V1, 0, o.G5, o.a4J, o.L5⟩ ⟨c.st, c.wr, 0, c.events, c.vars, c.arrs⟩ := by
  obtain ⟨h1, h2, h3, h4, h5, h6⟩ := h
  exact ⟨h1, h2, rfl, h4, h5, h6⟩
theorem OutH.e {o : t8} {c c' : Oc} (h : OutH H o c') (e : c' = c) : OutH H o c := e ▸ h
theorem f7r {o o' : t8} {c c' : Oc} (h : OutH H o c) (h' : OutH H o' c') (e : (⟨c'.st, c'.wr, 0, c'.events, c'.vars, c'.arrs⟩ : Oc) = ⟨c.st, c.wr, 0, c.events, c.vars, c.arrs⟩) (hb : c.events.length ≤ big ∧ c.vars.length ≤ big ∧ c.arrs.length ≤ big ∧ ∀ l ∈ c.arrs, l.length ≤ big) {K : Bool → Hp → Prop} (hK : K true H) : a4k o o' H K := by
  refine b2W _ _ ?_
  unfold a1r
  exact e0V h.z (h'.z.e e) hb hK
theorem c7N (hT : TabsH H) {p : r7} {q : PP} (hp : PH H p q) (hsm : q.Sm) {sc : Sl} {scr : List Int} (hsc : SlH H 1 ci sc scr) (hcap : sc.n ≤ sc.c) (hin : ∀ x ∈ scr, o8 x) {k : Int} (_ : o8 k) {K : Bool → Hp → Prop} (h : ∀ H', Hle H H' → K true H') : a0U p sc k H K := by
  refine a9K _ _ _ ?_
  unfold W4
  refine d9U hT fun H1 l1 => ⟨(fun q => by cases q), fun _ => ⟨fun _ => h H1 l1, fun hn => ?_⟩⟩
  have hT1 := hT.le l1
  have hp1 := hp.le l1
  refine f4Q hT1 hp1 hsm (fun y H2 l2 c hy => ?_) fun H2 l2 c => ?_
  · have l12 := l1.trans l2
    refine d5a (hT.le l12) (hp.le l12) hsm (hsc.le l12) hcap hin (fun hne H3 l3 => ?_) fun he o H3 l3 ho => ?_
    · rw [decide_eq_false hne]
      exact ⟨fun _ => h H3 (l12.trans l3), (fun q => by cases q)⟩
    · refine ⟨(fun q => by cases q), fun _ => ?_⟩
      have l13 := l12.trans l3
      obtain ⟨hw, hk1, hk2, hk3⟩ := h4m he
      have hars := (PH.ars (hp.le l12) hsm c).1
      obtain ⟨_, hus, ht, hsm', _⟩ := keptP hars hsm c
      have hw2 : (wellS q.fold).2 = 0 := by
        have hw' := hw
        rw [b4y] at hw' ⊢
        exact ⟨ht, hw'.2.1, fun u hu => hw'.2.2 u (hus u hu)⟩
      refine d5a (hT.le l13) (hy.le l3) hsm' (hsc.le l13) hcap hin (fun hne => (hne (h8r hw2 hk1 hk2 hk3)).elim) fun _ o' H4 l4 ho' => ?_
      have l14 := l13.trans l4
      refine ⟨fun q => (q rfl).elim, fun _ => ⟨fun _ => h H4 l14, fun hst => ?_⟩⟩
      obtain ⟨f1, f2, f3, f4, f5, f6⟩ := e9B (k := k.toNat) hw hars hsm hin (by rw [← ho.1]; exact hst)
      refine f7r (ho.le l4) ho' (by rw [f1, f2, f3, f4, f5]) (e9y hp.bd (by simp only [big]; omega) hw hars hin) ?_
      have hs : o'.W5 ≤ o.W5 := by
        have q1 := ho.2.2.1
        have q2 := ho'.2.2.1
        omega
      rw [decide_eq_true hs]
      exact h H4 l14
  · have l12 := l1.trans l2
    refine d5a (hT.le l12) (hp.le l12) hsm (hsc.le l12) hcap hin (fun _ H3 l3 => ?_) (fun _ o H3 l3 _ => ?_)
    all_goals rw [decide_eq_false c]; exact ⟨fun _ => h H3 (l12.trans l3), (fun q => by cases q)⟩
end
end Go.Proofs.YtnhkdkcgdcgmdaaGreatDoor
