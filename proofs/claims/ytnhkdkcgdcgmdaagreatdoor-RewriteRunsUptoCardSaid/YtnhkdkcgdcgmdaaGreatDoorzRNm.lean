/- A folded program's run: what has ended ends the same, in no more steps. Plain. -/
import Derived.Test.YtnhkdkcgdcgmdaaGreatDoorzRN7
import Derived.Test.YtnhkdkcgdcgmdaaGreatDoorzRQj
namespace Go.Proofs.YtnhkdkcgdcgmdaaGreatDoor
open Go.RowKit
set_option maxRecDepth 100000
set_option maxHeartbeats 2000000
structure Fur (s s' : St) : Prop where
  left : s.left ≤ s'.left
  steps : s'.steps ≤ s.steps
  script : s'.script = s.script
  events : s'.events = s.events
  vars : s'.vars = s.vars
  arrs : s'.arrs = s.arrs
theorem Fur.refl (s : St) : Fur s s := ⟨Nat.le_refl _, Int.le_refl _, rfl, rfl, rfl, rfl⟩
def Fo {α : Type} (r r' : Rs α) : Prop :=
  match r with
  | .ok a s => ∃ s', r' = .ok a s' ∧ Fur s s'
  | .stop x y s => x = 1 ∨ ∃ s', r' = .stop x y s' ∧ Fur s s'
def Fom (ns ars : List ByteArray) {α : Type} (m m' : M α) : Prop := ∀ k0 ev0 k1 ev1 s s', Okst k0 ev0 ns ars s → Okst k1 ev1 ns ars s' → Fur s s' → Fo (m s) (m' s')
def DecA (ns ars : List ByteArray) {α : Type} (m : M α) : Prop := ∀ k0 ev0 s b s', Okst k0 ev0 ns ars s → m s = .ok b s' → s'.left < s.left
section
variable {ns ars : List ByteArray} {α β : Type} {F F' : α → Prop}
theorem Fom.bnd {m m' : M α} {k k' : α → M β} (hm : Cm ns ars F m) (hm' : Cm ns ars F' m') (h1 : Fom ns ars m m') (h2 : ∀ a, F a → F' a → Fom ns ars (k a) (k' a)) : Fom ns ars (bnd m k) (bnd m' k') := by
  intro k0 ev0 k1 ev1 s s' hs hs' hf
  have p := hm.safe s hs
  have p' := hm'.safe s' hs'
  have q := h1 _ _ _ _ _ _ hs hs' hf
  unfold Go.Proofs.YtnhkdkcgdcgmdaaGreatDoor.bnd
  cases e : m s with
  | ok a s1 =>
    rw [e] at p q
    obtain ⟨s1', e', f1⟩ := q
    rw [e'] at p' ⊢
    exact h2 a p.1 p'.1 _ _ _ _ _ _ p.2.1 p'.2.1 f1
  | stop x y s1 =>
    rw [e] at q
    rcases q with q | ⟨s1', e', f1⟩
    · exact .inl q
    · rw [e']; exact .inr ⟨s1', rfl, f1⟩
theorem Fom.step : Fom ns ars stepM stepM := by
  intro k0 ev0 k1 ev1 s s' _ _ hf
  obtain ⟨h1, h2, h3, h4, h5, h6⟩ := hf
  unfold stepM
  by_cases c : s.left = 0
  · rw [if_pos c]; exact .inl rfl
  · rw [if_neg c, if_neg (by omega)]
    exact ⟨_, rfl, ⟨by dsimp only; omega, by dsimp only; omega, h3, h4, h5, h6⟩⟩
theorem Fom.loop {c c' : M Bool} {b b' : M Unit} (hc : Cm ns ars (fun _ => True) c) (hb : Cm ns ars (fun _ => True) b) (hd : Dec ns ars c) (hc' : Cm ns ars (fun _ => True) c') (hb' : Cm ns ars (fun _ => True) b') (hd' : Dec ns ars c') (h1 : Fom ns ars c c') (h2 : Fom ns ars b b') : Fom ns ars (loopW c b) (loopW c' b') := by
  have key : ∀ (n n' : Nat) k0 ev0 k1 ev1 s s', Okst k0 ev0 ns ars s → Okst k1 ev1 ns ars s' → Fur s s' → s.left < n → s'.left < n' → Fo (loopM c b n s) (loopM c' b' n' s') := by
    intro n
    induction n with
    | zero => intro n' k0 ev0 k1 ev1 s s' _ _ _ h _; omega
    | succ n ih =>
      intro n' k0 ev0 k1 ev1 s s' hs hs' hf l1 l2
      cases n' with
      | zero => omega
      | succ n' =>
        unfold loopM Go.Proofs.YtnhkdkcgdcgmdaaGreatDoor.bnd
        have p := hc.safe s hs
        have p' := hc'.safe s' hs'
        have q := h1 _ _ _ _ _ _ hs hs' hf
        cases e : c s with
        | stop x y s1 =>
          rw [e] at q
          rcases q with q | ⟨s1', e', f1⟩
          · exact .inl q
          · rw [e']; exact .inr ⟨s1', rfl, f1⟩
        | ok a s1 =>
          rw [e] at p q
          obtain ⟨s1', e', f1⟩ := q
          rw [e'] at p' ⊢
          have d1 := hd _ _ _ _ _ hs e
          have d2 := hd' _ _ _ _ _ hs' e'
          show Fo ((if a = true then Go.Proofs.YtnhkdkcgdcgmdaaGreatDoor.bnd b fun _ => loopM c b n else ret ()) s1) ((if a = true then Go.Proofs.YtnhkdkcgdcgmdaaGreatDoor.bnd b' fun _ => loopM c' b' n' else ret ()) s1')
          cases a
          · exact ⟨s1', rfl, f1⟩
          · rw [if_pos rfl, if_pos rfl]
            unfold Go.Proofs.YtnhkdkcgdcgmdaaGreatDoor.bnd
            have p2 := hb.safe s1 p.2.1
            have p2' := hb'.safe s1' p'.2.1
            have q2 := h2 _ _ _ _ _ _ p.2.1 p'.2.1 f1
            cases e2 : b s1 with
            | stop x y s2 =>
              rw [e2] at q2
              rcases q2 with q | ⟨s2', e', f2⟩
              · exact .inl q
              · rw [e']; exact .inr ⟨s2', rfl, f2⟩
            | ok u s2 =>
              rw [e2] at p2 q2
              obtain ⟨s2', e2', f2⟩ := q2
              rw [e2'] at p2' ⊢
              have l3 := p2.2.2
              have l4 := p2'.2.2
              exact ih n' _ _ _ _ _ _ p2.2.1 p2'.2.1 f2 (by omega) (by omega)
  intro k0 ev0 k1 ev1 s s' hs hs' hf
  exact key _ _ _ _ _ _ _ _ hs hs' hf (Nat.lt_succ_self _) (Nat.lt_succ_self _)
theorem Fom.same {m : M α} (h : Cm ns ars F m) : Fom ns ars m m := by
  induction h with
  | ret _ => exact fun _ _ _ _ _ s' _ _ hf => ⟨s', rfl, hf⟩
  | bnd h1 _ ih1 ih2 => exact Fom.bnd h1 h1 ih1 fun a ha _ => ih2 a ha
  | halt a b _ => exact fun _ _ _ _ _ s' _ _ hf => .inr ⟨s', rfl, hf⟩
  | step => exact Fom.step
  | @get x _ =>
    intro k0 ev0 k1 ev1 s s' _ _ hf
    exact ⟨s', by unfold getM; rw [hf.vars], hf⟩
  | set _ _ =>
    intro k0 ev0 k1 ev1 s s' _ _ hf
    obtain ⟨h1, h2, h3, h4, h5, h6⟩ := hf
    exact ⟨_, rfl, ⟨h1, h2, h3, h4, by dsimp only; rw [h5], h6⟩⟩
  | input =>
    intro k0 ev0 k1 ev1 s s' _ _ hf
    obtain ⟨h1, h2, h3, h4, h5, h6⟩ := hf
    have hf : Fur s s' := ⟨h1, h2, h3, h4, h5, h6⟩
    unfold inM
    rw [h3]
    cases hsc : s.script with
    | nil => exact .inr ⟨s', rfl, hf⟩
    | cons n r =>
      dsimp only
      by_cases c : s.left = 0
      · rw [if_pos c]; exact .inl rfl
      · rw [if_neg c, if_neg (by omega)]
        exact ⟨_, rfl, ⟨by dsimp only; omega, by dsimp only; omega, rfl, by dsimp only; rw [h4], h5, h6⟩⟩
  | @item x i _ _ =>
    intro k0 ev0 k1 ev1 s s' _ _ hf
    have e : rowOf x s' = rowOf x s := by unfold rowOf; rw [hf.arrs]
    unfold boundM
    rw [e]
    split
    · exact .inr ⟨s', rfl, hf⟩
    · exact ⟨s', rfl, hf⟩
  | @cell x i _ _ =>
    intro k0 ev0 k1 ev1 s s' _ _ hf
    have e : rowOf x s' = rowOf x s := by unfold rowOf; rw [hf.arrs]
    exact ⟨s', by unfold cellM; rw [e], hf⟩
  | @put x i v _ _ _ =>
    intro k0 ev0 k1 ev1 s s' _ _ hf
    have e : rowOf x s' = rowOf x s := by unfold rowOf; rw [hf.arrs]
    obtain ⟨h1, h2, h3, h4, h5, h6⟩ := hf
    exact ⟨_, rfl, ⟨h1, h2, h3, h4, h5, by dsimp only; rw [e, h6]⟩⟩
  | held b =>
    unfold heldM
    refine Fom.bnd (F := fun _ => True) (F' := fun _ => True) .step .step Fom.step fun _ _ _ => ?_
    intro k0 ev0 k1 ev1 s s' _ _ hf
    obtain ⟨h1, h2, h3, h4, h5, h6⟩ := hf
    exact ⟨_, rfl, ⟨h1, h2, h3, by dsimp only; rw [h4], h5, h6⟩⟩
  | loop h1 h2 hd ih1 ih2 => exact Fom.loop h1 h2 hd h1 h2 hd ih1 ih2
theorem Fom.drop {m : M α} {x : α} {k : α → M β} {m' : M β} (hm : Cm ns ars F m) (h1 : Fom ns ars m (ret x)) (h2 : F x → Fom ns ars (k x) m') : Fom ns ars (Go.Proofs.YtnhkdkcgdcgmdaaGreatDoor.bnd m k) m' := by
  intro k0 ev0 k1 ev1 s s' hs hs' hf
  have p := hm.safe s hs
  have q := h1 _ _ _ _ _ _ hs hs' hf
  unfold Go.Proofs.YtnhkdkcgdcgmdaaGreatDoor.bnd
  cases e : m s with
  | ok a s1 =>
    rw [e] at p q
    obtain ⟨s1', e', f1⟩ := q
    cases e'
    exact h2 p.1 _ _ _ _ _ _ p.2.1 hs' f1
  | stop a b s1 =>
    rw [e] at q
    rcases q with q | ⟨s1', e', _⟩
    · exact .inl q
    · cases e'
theorem Fom.dropStep {m m' : M β} (h : Fom ns ars m m') : Fom ns ars (Go.Proofs.YtnhkdkcgdcgmdaaGreatDoor.bnd stepM fun _ => m) m' := by
  intro k0 ev0 k1 ev1 s s' hs hs' hf
  have p := b5k s hs
  unfold Go.Proofs.YtnhkdkcgdcgmdaaGreatDoor.bnd
  unfold stepM at p ⊢
  by_cases c : s.left = 0
  · rw [if_pos c]; exact .inl rfl
  · rw [if_neg c] at p ⊢
    obtain ⟨h1, h2, h3, h4, h5, h6⟩ := hf
    exact h _ _ _ _ _ _ p.2.1 hs' ⟨by dsimp only; omega, by dsimp only; omega, h3, h4, h5, h6⟩
theorem Fom.ofStep {m : M α} {b : α} (h : Fom ns ars m (Go.Proofs.YtnhkdkcgdcgmdaaGreatDoor.bnd stepM fun _ => ret b)) : Fom ns ars m (ret b) := by
  intro k0 ev0 k1 ev1 s s' hs hs' hf
  have q := h _ _ _ _ _ _ hs hs' hf
  have hst : (Go.Proofs.YtnhkdkcgdcgmdaaGreatDoor.bnd stepM fun _ => ret b) s' = if s'.left = 0 then .stop 1 0 s' else .ok b { s' with left := s'.left - 1, steps := s'.steps + 1 } := by
    unfold Go.Proofs.YtnhkdkcgdcgmdaaGreatDoor.bnd stepM
    split <;> rfl
  rw [hst] at q
  cases e : m s with
  | ok a s1 =>
    rw [e] at q
    obtain ⟨s1', e', f⟩ := q
    split at e'
    · cases e'
    · cases e'
      obtain ⟨h1, h2, h3, h4, h5, h6⟩ := f
      exact ⟨s', rfl, ⟨by dsimp only at h1; omega, by dsimp only at h2; omega, h3, h4, h5, h6⟩⟩
  | stop x y s1 =>
    rw [e] at q
    rcases q with q | ⟨s1', e', _⟩
    · exact .inl q
    · split at e'
      · cases e'; exact .inl rfl
      · cases e'
theorem Fom.late {m m' : M α} (hm : Cm ns ars F m) (hd : DecA ns ars m) (hq : ∀ s' : St, ∃ v, m' s' = .ok v s' ∧ m' { s' with left := s'.left - 1, steps := s'.steps + 1 } = .ok v { s' with left := s'.left - 1, steps := s'.steps + 1 }) (h : Fom ns ars m m') : Fom ns ars m (Go.Proofs.YtnhkdkcgdcgmdaaGreatDoor.bnd stepM fun _ => m') := by
  intro k0 ev0 k1 ev1 s s' hs hs' hf
  have p := hm.safe s hs
  have q := h _ _ _ _ _ _ hs hs' hf
  obtain ⟨v, hv, hv2⟩ := hq s'
  rw [hv] at q
  cases e : m s with
  | ok a s1 =>
    rw [e] at p q
    obtain ⟨s1', e', f⟩ := q
    cases e'
    have hd' := hd _ _ _ _ _ hs e
    have l1 := hf.left
    have l2 := hf.steps
    have e1 := hs.sum
    have e2 := p.2.1.sum
    obtain ⟨h1, h2, h3, h4, h5, h6⟩ := f
    unfold Go.Proofs.YtnhkdkcgdcgmdaaGreatDoor.bnd stepM
    rw [if_neg (by omega)]
    exact ⟨_, hv2, ⟨by dsimp only; omega, by dsimp only; omega, h3, h4, h5, h6⟩⟩
  | stop x y s1 =>
    rw [e] at q
    rcases q with q | ⟨s1', e', _⟩
    · exact .inl q
    · cases e'
end
section
variable {ns ars : List ByteArray}
theorem Nm.sub {l l' : List Us} (h : Nm ns ars l) (hs : ∀ x ∈ l', x ∈ l) : Nm ns ars l' := fun u hu => h u (hs u hu)
structure Gd (ns ars : List ByteArray) (t : PT) : Prop where
  form : formT t = true
  names : namesT t = true
  sm : Sm t
  nm : Nm ns ars (uT t)
theorem Gd.kid {l : Lab} {cs : List PT} (h : Gd ns ars (.mk l cs)) {t : PT} (ht : t ∈ cs) : Gd ns ars t := by
  obtain ⟨h1, h2, h3, h4⟩ := h
  rw [formT, Bool.and_eq_true] at h1
  rw [namesT, Bool.and_eq_true] at h2
  exact ⟨A8 h1.2 ht, (U8 _).1 h2.2 t ht, h3.num.2 t ht, h4.own.2.mem ht⟩
theorem Gd.ofK {t r : PT} (h : Gd ns ars t) (k : KeptT t r) : Gd ns ars r := ⟨k.1.form, k.1.names, k.1.sm, h.nm.sub k.2⟩
theorem Gd.foldE {t : PT} (h : Gd ns ars t) (ha : Ar t) : Gd ns ars (foldT t) := h.ofK (keptE ha h.form h.names h.sm)
theorem Gd.foldC {t : PT} (h : Gd ns ars t) (ha : ArC t) : Gd ns ars (foldT t) := h.ofK (keptC ha h.form h.names h.sm)
theorem f5k (b : Bool) : ArC (truT b) := by
  have : ∀ k : Int, k = 1 ∨ k = 2 → ArC (.mk (.cond k 0 0 0) []) := fun k hk => ArC.mk (xs := []) (ps := []) ⟨fun e => by omega, fun e => by omega, fun e => by omega, fun e => by omega⟩ (fun t h => by cases h) fun t h => by cases h
  unfold truT
  cases b
  · exact this 2 (.inr rfl)
  · exact this 1 (.inl rfl)
theorem c3W {t : PT} (h : ArC t) : ArC (foldT t) := by
  induction h with
  | @mk k op xs ps h1 h2 h3 ih =>
    rw [a8p]
    have hp : ∀ t ∈ ps.map foldT, ArC t := fun t ht => by obtain ⟨u, hu, rfl⟩ := List.mem_map.1 ht; exact ih u hu
    rcases c2r k op (xs.map foldT) (ps.map foldT) with q | ⟨b, q⟩ | q
    · rw [q]
      unfold cN
      exact .mk (by rw [List.length_map, List.length_map]; exact h1) (fun t ht => by obtain ⟨u, hu, rfl⟩ := List.mem_map.1 ht; exact a6r (h2 u hu)) hp
    · rw [q]; exact f5k b
    · exact hp _ q
theorem e8q {t : PT} (h : ArS t) : ∀ r ∈ foldA t, ArS r := by
  induction h with
  | @mk k s ts us vs ws h1 h2 h3 h4 ih1 ih2 =>
    have hv : ∀ r ∈ foldSs vs, ArS r := fun r hr => by
      obtain ⟨l, hl, hr⟩ := List.mem_flatten.1 hr
      obtain ⟨t, ht, rfl⟩ := List.mem_map.1 hl
      exact ih1 t ht r hr
    have hw : ∀ r ∈ foldSs ws, ArS r := fun r hr => by
      obtain ⟨l, hl, hr⟩ := List.mem_flatten.1 hr
      obtain ⟨t, ht, rfl⟩ := List.mem_map.1 hl
      exact ih2 t ht r hr
    rw [a8q]
    unfold foldStm
    intro r hr
    split at hr
    · cases hr
    split at hr
    · exact hv r hr
    split at hr
    · exact hw r hr
    · rw [List.mem_singleton.1 hr]
      exact .mk (fun t ht => by obtain ⟨u, hu, rfl⟩ := List.mem_map.1 ht; exact a6r (h1 u hu)) (fun t ht => by obtain ⟨u, hu, rfl⟩ := List.mem_map.1 ht; exact c3W (h2 u hu)) hv hw
theorem c8o (n : Int) (s : ByteArray) (a : Nat) (cs : List PT) : foldT (.mk (.expr 1 n s a) cs) = plainT n := by
  rw [foldT, foldL]; unfold foldN eN; rw [cst, if_pos rfl]
theorem c8p {w : PT} {v : Int} (h : kidC [w] = some v) (hf : formT w = true) (ha : Ar w) : ∃ n', cst w = some n' ∧ foldT w = plainT n' ∧ 0 ≤ n' ∧ o8 n' ∧ v = -n' := by
  cases ha with
  | @mk k n s a cs h1 h2 h3 =>
    rw [kidC] at h
    by_cases k1 : k = 1
    · rw [if_pos k1] at h
      cases h
      subst k1
      rw [formT, Bool.and_eq_true] at hf
      have h0 := b8J hf.1 rfl
      refine ⟨n, by rw [cst, if_pos rfl], c8o _ _ _ _, h0, h2, ?_⟩
      unfold o8 at h2
      rw [a1H (a := 0 - n) ⟨by omega, by omega⟩]
      omega
    · rw [if_neg k1] at h; cases h
theorem d4g {n : Int} (h0 : 0 ≤ n) (h : o8 n) : Nn (-n) := by unfold Nn o8 at *; omega
theorem d4h {t : PT} (ha : Ar t) (hf : formT t = true) {v : Int} (h : cst t = some v) : foldT t = plainT v ∧ Nn v := by
  cases ha with
  | @mk k n s a cs h1 h2 h3 =>
    rw [cst] at h
    have hf' := hf
    rw [formT, Bool.and_eq_true] at hf
    by_cases k1 : k = 1
    · rw [if_pos k1] at h
      cases h
      subst k1
      have h0 := b8J hf.1 rfl
      exact ⟨c8o _ _ _ _, by unfold Nn o8 at *; omega⟩
    · rw [if_neg k1] at h
      by_cases k5 : k = 5
      · rw [if_pos k5] at h
        subst k5
        obtain ⟨u, rfl⟩ := List.length_eq_one_iff.1 (h1.1.2.2.2.1 rfl)
        obtain ⟨n', e1, e2, e3, e4, rfl⟩ := c8p h (A8 hf.2 List.mem_cons_self) (h3 u List.mem_cons_self)
        have hp : plainT n' = eN 1 n' ⟨#[]⟩ [] := by unfold plainT; rw [if_neg (by omega)]
        have hc : cst (eN 5 n s [eN 1 n' ⟨#[]⟩ []]) = some (-n') := by
          unfold eN
          rw [cst, if_neg (by decide), if_pos rfl, kidC, if_pos rfl]
          unfold o8 at e4
          rw [a1H (a := 0 - n') ⟨by omega, by omega⟩]
          congr 1
          omega
        refine ⟨?_, d4g e3 e4⟩
        rw [foldT, foldL, a3w, List.map_cons, List.map_nil, e2, hp]
        unfold foldN
        rw [hc]
      · rw [if_neg k5] at h; cases h
theorem d6s {n : Int} {s : ByteArray} {a : PT} (hc : cst (eN 5 n s [a]) = none) : evT (eN 5 n s [a]) = bnd (evT a) fun x => bnd stepM fun _ => toldM (opS 3 x 0) := by
  rw [b2a, hc]
  unfold evN
  dsimp only
  rw [if_neg (by decide), evTs, evTs]
  simp only [a9R, c1M]
  funext s
  congr 1
def HE (ns ars : List ByteArray) (t : PT) : Prop := Fom ns ars (evT t) (evT (foldT t)) ∧ Cm ns ars o8 (evT t) ∧ Cm ns ars o8 (evT (foldT t))
theorem HE.of {t : PT} (ha : Ar t) (hg : Gd ns ars t) (h : Fom ns ars (evT t) (evT (foldT t))) : HE ns ars t := ⟨h, cmE ha hg.nm, cmE (a6r ha) (hg.foldE ha).nm⟩
theorem d4i : ∀ {cs : List PT}, (∀ t ∈ cs, HE ns ars t) → Fom ns ars (evTs cs) (evTs (cs.map foldT))
  | [], _ => by
    rw [List.map_nil, evTs]
    exact Fom.same (F := fun _ => True) (.ret trivial)
  | t :: ts, h => by
    have h0 := h t List.mem_cons_self
    have hr : ∀ u ∈ ts, HE ns ars u := fun u hu => h u (List.mem_cons_of_mem _ hu)
    rw [List.map_cons, evTs, evTs]
    refine Fom.bnd h0.2.1 h0.2.2 h0.1 fun v _ _ => Fom.bnd (b1m fun u hu => (hr u hu).2.1) (b1m (ts := ts.map foldT) fun u hu => ?_) (d4i hr) fun l _ _ => Fom.same (F := fun _ => True) (.ret trivial)
    obtain ⟨w, hw, rfl⟩ := List.mem_map.1 hu
    exact (hr w hw).2.2
theorem e8r {k n : Int} {s : ByteArray} {cs : List PT} (hg : Gd ns ars (eN k n s cs)) (hh : ∀ t ∈ cs, HE ns ars t) (hc : cst (eN k n s cs) = none) (hc' : cst (eN k n s (cs.map foldT)) = none) : Fom ns ars (evT (eN k n s cs)) (evT (eN k n s (cs.map foldT))) := by
  have h1 := hg.nm.own.1
  have hx : (k = 2 → s ∈ ns) ∧ (k = 4 → s ∈ ars) := by
    unfold useL at h1
    constructor
    · intro e; subst e
      exact (h1 ⟨s, false⟩ (by simp)).2 rfl
    · intro e; subst e
      exact (h1 ⟨s, true⟩ (by simp)).1 rfl
  rw [b2a, b2a, hc, hc']
  unfold evN
  dsimp only
  by_cases k2 : k = 2
  · rw [if_pos k2, if_pos k2]; exact Fom.same (.get (hx.1 k2))
  · rw [if_neg k2, if_neg k2]
    refine Fom.bnd (b1m fun t ht => (hh t ht).2.1) (b1m (ts := cs.map foldT) fun u hu => ?_) (d4i hh) fun l hl _ => Fom.same (F := o8) ?_
    · obtain ⟨w, hw, rfl⟩ := List.mem_map.1 hu
      exact (hh w hw).2.2
    · split
      · exact .input
      · split
        · rename_i e; exact d6j (hx.2 e) (getD_in hl.2 0)
        · exact .bnd .step fun _ _ => c7s (c7r _ _ _ (getD_in hl.2 0) (getD_in hl.2 1))
theorem b4A {r : Int × Int} {v : Int} (h : r = (v, 0)) : Fom ns ars (toldM r) (ret v) := by
  subst h
  exact Fom.same (F := fun _ => True) (.ret trivial)
theorem HE.ret {t : PT} (h : HE ns ars t) {x : Int} (hx : cst (foldT t) = some x) : Fom ns ars (evT t) (ret x) := by
  have := h.1
  rwa [b3j hx] at this
theorem f0N {k x0 : Int} {u w : PT} (hu : HE ns ars u) (hw : HE ns ars w) (hx : cst (foldT u) = some x0) (ho : ∀ y, o8 y → opS k x0 y = (y, 0)) : Fom ns ars (bnd (evT u) fun x => bnd (evT w) fun y => bnd stepM fun _ => toldM (opS k x y)) (evT (foldT w)) := by
  refine Fom.drop hu.2.1 (hu.ret hx) fun _ => ?_
  rw [← a8r (evT (foldT w))]
  exact Fom.bnd hw.2.1 hw.2.2 hw.1 fun y hy _ => Fom.dropStep (b4A (ho y hy))
theorem c9k {k y0 : Int} {u w : PT} (hu : HE ns ars u) (hw : HE ns ars w) (hx : cst (foldT w) = some y0) (ho : ∀ x, o8 x → opS k x y0 = (x, 0)) : Fom ns ars (bnd (evT u) fun x => bnd (evT w) fun y => bnd stepM fun _ => toldM (opS k x y)) (evT (foldT u)) := by
  rw [← a8r (evT (foldT u))]
  exact Fom.bnd hu.2.1 hu.2.2 hu.1 fun x h1 _ => Fom.drop hw.2.1 (hw.ret hx) fun _ => Fom.dropStep (b4A (ho x h1))
theorem d4j {r : Int × Int} {v : Int} (h : okR r = some v) : r = (v, 0) ∧ v ≠ -9223372036854775808 := by
  unfold okR at h
  split at h
  · rename_i hq
    cases h
    exact ⟨by obtain ⟨a, b⟩ := r; dsimp only at hq; rw [hq.1], hq.2⟩
  · cases h
theorem b1w {t : PT} {v : Int} (h : isV t v = true) : cst t = some v := of_decide_eq_true h
theorem h7t (y : Int) (h : o8 y) : opS 4 0 y = (y, 0) := by
  show fit (0 + y) = _
  rw [Int.zero_add, a9b h]
theorem h7u (y : Int) (h : o8 y) : opS 4 y 0 = (y, 0) := by
  show fit (y + 0) = _
  rw [Int.add_zero, a9b h]
theorem h7v (y : Int) (h : o8 y) : opS 5 y 0 = (y, 0) := by
  show fit (y - 0) = _
  rw [Int.sub_zero, a9b h]
theorem h7w (y : Int) (h : o8 y) : opS 6 1 y = (y, 0) := by
  show fit (1 * y) = _
  rw [Int.one_mul, a9b h]
theorem h7x (y : Int) (h : o8 y) : opS 6 y 1 = (y, 0) := by
  show fit (y * 1) = _
  rw [Int.mul_one, a9b h]
theorem h7y (y : Int) (h : o8 y) : opS 7 y 1 = (y, 0) := by
  show divS y 1 = _
  unfold divS
  rw [if_neg (by decide), Int.tdiv_one, a9b h]
theorem e8s {k n : Int} {s : ByteArray} {u w : PT} (hk : 6 ≤ k) (hu : HE ns ars u) (hw : HE ns ars w) (hs : Fom ns ars (evT (eN k n s [u, w])) (evT (eN k n s [foldT u, foldT w]))) : Fom ns ars (evT (eN k n s [u, w])) (evT (simpN k n s [foldT u, foldT w])) := by
  have e2 := d6m (n := n) (s := s) (a := u) (b := w) hk
  rw [simpN]
  by_cases k6 : k = 6
  · rw [if_pos k6]
    subst k6
    by_cases c : isV (foldT u) 0 = true
    · rw [if_pos c, e2]; exact f0N hu hw (b1w c) h7t
    · rw [if_neg c]
      by_cases c : isV (foldT w) 0 = true
      · rw [if_pos c, e2]; exact c9k hu hw (b1w c) h7u
      · rw [if_neg c]; exact hs
  · rw [if_neg k6]
    by_cases k7 : k = 7
    · rw [if_pos k7]
      subst k7
      by_cases c : isV (foldT w) 0 = true
      · rw [if_pos c, e2]; exact c9k hu hw (b1w c) h7v
      · rw [if_neg c]; exact hs
    · rw [if_neg k7]
      by_cases k8 : k = 8
      · rw [if_pos k8]
        subst k8
        by_cases c : (isV (foldT u) 1 && !isV (foldT w) 1) = true
        · rw [if_pos c, e2]
          exact f0N hu hw (b1w ((Bool.and_eq_true _ _).mp c).1) h7w
        · rw [if_neg c]
          by_cases c : isV (foldT w) 1 = true
          · rw [if_pos c, e2]; exact c9k hu hw (b1w c) h7x
          · rw [if_neg c]; exact hs
      · rw [if_neg k8]
        by_cases k9 : k = 9
        · rw [if_pos k9]
          subst k9
          by_cases c : isV (foldT w) 1 = true
          · rw [if_pos c, e2]; exact c9k hu hw (b1w c) h7y
          · rw [if_neg c]; exact hs
        · rw [if_neg k9]; exact hs
theorem fomE {t : PT} (ha : Ar t) : Gd ns ars t → Fom ns ars (evT t) (evT (foldT t)) := by
  induction ha with
  | @mk k n s a cs h1 h2 h3 ih =>
    intro hg
    obtain ⟨h1, rfl⟩ := h1
    have hA : Ar (eN k n s cs) := .mk ⟨h1, rfl⟩ h2 h3
    have hh : ∀ t ∈ cs, HE ns ars t := fun t ht => HE.of (h3 t ht) (hg.kid ht) (ih t ht (hg.kid ht))
    show Fom ns ars (evT (eN k n s cs)) (evT (foldT (eN k n s cs)))
    have hg : Gd ns ars (eN k n s cs) := hg
    cases hc : cst (eN k n s cs) with
    | some v =>
      have q := d4h hA hg.form hc
      rw [q.1, b3j hc, c1O q.2]
      exact Fom.same (F := fun _ => True) (.ret trivial)
    | none =>
      have k1 : k ≠ 1 := by rintro rfl; unfold eN at hc; rw [cst, if_pos rfl] at hc; cases hc
      have hft : foldT (eN k n s cs) = foldN k n s (cs.map foldT) := by unfold eN; rw [foldT, foldL, a3w]
      rw [hft]
      unfold foldN
      cases hc2 : cst (eN k n s (cs.map foldT)) with
      | some v =>
        dsimp only
        unfold eN at hc2
        rw [cst, if_neg k1] at hc2
        have k5 : k = 5 := by
          by_cases q : k = 5
          · exact q
          · rw [if_neg q] at hc2; cases hc2
        subst k5
        rw [if_pos rfl] at hc2
        obtain ⟨u, rfl⟩ := List.length_eq_one_iff.1 (h1.2.2.2.1 rfl)
        have hu := hh u List.mem_cons_self
        have hgu := (hg.kid (t := u) List.mem_cons_self).foldE (h3 u List.mem_cons_self)
        obtain ⟨n', e1, e2, e3, e4, rfl⟩ := c8p hc2 hgu.form (a6r (h3 u List.mem_cons_self))
        rw [d6s hc, c1O (d4g e3 e4)]
        refine Fom.drop hu.2.1 (hu.ret e1) fun _ => Fom.dropStep (b4A ?_)
        show fit (-n') = _
        exact a9b (d4g e3 e4).1
      | none =>
        dsimp only
        have self := e8r hg hh hc hc2
        match cs, h1, h3, hg, hh, hc, hc2, self with
        | [], h1, h3, hg, hh, hc, hc2, self => exact self
        | [u], h1, h3, hg, hh, hc, hc2, self =>
          have hu := hh u List.mem_cons_self
          show Fom ns ars _ (evT (match (if k = 5 then two (fun x y => okR (opS 3 x y)) (cst (foldT u)) (some 0) else none) with
            | some v => plainT v
            | none => eN k n s [foldT u]))
          by_cases k5 : k = 5
          · rw [if_pos k5]
            subst k5
            cases hr : two (fun x y => okR (opS 3 x y)) (cst (foldT u)) (some 0) with
            | none => exact self
            | some v =>
              obtain ⟨x, y, q1, q2, q3⟩ := b1l hr
              cases q2
              have q4 := d4j q3
              have hv : o8 v := c5G (c5F (b0C (a6r (h3 u List.mem_cons_self)) q1) z64) q3
              dsimp only
              rw [d6s hc, c1O ⟨hv, q4.2⟩]
              exact Fom.drop hu.2.1 (hu.ret q1) fun _ => Fom.dropStep (b4A q4.1)
          · rw [if_neg k5]; exact self
        | [u, w], h1, h3, hg, hh, hc, hc2, self =>
          have hu := hh u List.mem_cons_self
          have hw := hh w (List.mem_cons_of_mem _ List.mem_cons_self)
          have hk : 6 ≤ k := by
            by_cases q : 6 ≤ k
            · exact q
            · by_cases q5 : k = 5
              · have := h1.2.2.2.1 q5; simp at this
              · have := h1.2.2.1 (by omega); simp at this
          have hk2 : k ≤ 10 := h1.2.1
          show Fom ns ars _ (evT (match (if 6 ≤ k ∧ k ≤ 10 then two (fun x y => okR (opS (k - 2) x y)) (cst (foldT u)) (cst (foldT w)) else none) with
            | some v => plainT v
            | none => simpN k n s [foldT u, foldT w]))
          rw [if_pos ⟨hk, hk2⟩]
          cases hr : two (fun x y => okR (opS (k - 2) x y)) (cst (foldT u)) (cst (foldT w)) with
          | none => exact e8s hk hu hw self
          | some v =>
            obtain ⟨x, y, q1, q2, q3⟩ := b1l hr
            have q4 := d4j q3
            have hv : o8 v := c5G (c5F (b0C (a6r (h3 u List.mem_cons_self)) q1) (b0C (a6r (h3 w (List.mem_cons_of_mem _ List.mem_cons_self))) q2)) q3
            dsimp only
            rw [d6m hk, c1O ⟨hv, q4.2⟩]
            exact Fom.drop hu.2.1 (hu.ret q1) fun _ => Fom.drop hw.2.1 (hw.ret q2) fun _ => Fom.dropStep (b4A q4.1)
        | u :: w :: z :: r, h1, h3, hg, hh, hc, hc2, self =>
          exfalso
          have l1 := h1.2.2.1
          have l2 := h1.2.2.2.1
          have l3 := h1.2.2.2.2
          simp only [List.length_cons] at l1 l2 l3
          by_cases q : 6 ≤ k
          · have := l3 q; omega
          · by_cases q5 : k = 5
            · have := l2 q5; omega
            · have := l1 (by omega); omega
end
end Go.Proofs.YtnhkdkcgdcgmdaaGreatDoor
