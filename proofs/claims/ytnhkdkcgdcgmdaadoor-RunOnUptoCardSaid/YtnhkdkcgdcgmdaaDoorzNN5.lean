/- Runs: what comes later, one step more, another script. Plain. -/
import Derived.Test.YtnhkdkcgdcgmdaaDoorzNN6
namespace Go.Proofs.YtnhkdkcgdcgmdaaDoor
open Go.RowKit
set_option maxRecDepth 100000
set_option maxHeartbeats 2000000
def insE (l : List F7) : List Int := (l.filter (·.a0Z)).map (·.C4)
theorem b7V (a b : List F7) : insE (a ++ b) = insE a ++ insE b := by unfold insE; rw [List.filter_append, List.map_append]
def Lat (s s' : St) : Prop := s.steps ≤ s'.steps ∧ ∃ l, s'.events = s.events ++ l ∧ s.script = insE l ++ s'.script
theorem Lat.refl (s : St) : Lat s s := ⟨Int.le_refl _, [], by rw [List.append_nil], rfl⟩
theorem Lat.trans {a b c : St} (h : Lat a b) (k : Lat b c) : Lat a c := by
  obtain ⟨h1, l, h2, h3⟩ := h
  obtain ⟨k1, l', k2, k3⟩ := k
  exact ⟨by omega, l ++ l', by rw [k2, h2, List.append_assoc], by rw [h3, k3, b7V, List.append_assoc]⟩
def fin {α : Type} : Rs α → St
  | .ok _ s => s
  | .stop _ _ s => s
section
variable {k0 : Int} {ev0 : Nat} {ns ars : List ByteArray} {α : Type} {G : α → Prop} {m : M α}
theorem b0z {β : Type} {F : α → Prop} {k : α → M β} {s : St} (hp : Post k0 ev0 ns ars F s (m s)) (h1 : Lat s (fin (m s))) (h2 : ∀ a s', F a → Okst k0 ev0 ns ars s' → Lat s' (fin (k a s'))) : Lat s (fin (bnd m k s)) := by
  unfold bnd
  cases hm : m s with
  | ok a s1 => rw [hm] at hp h1; exact h1.trans (h2 a s1 hp.1 hp.2.1)
  | stop x y s1 => rw [hm] at h1; exact h1
theorem b9E {c : M Bool} {b : M Unit} (hc : Cm ns ars (fun _ => True) c) (hb : Cm ns ars (fun _ => True) b) (lc : ∀ s, Okst k0 ev0 ns ars s → Lat s (fin (c s))) (lb : ∀ s, Okst k0 ev0 ns ars s → Lat s (fin (b s))) : ∀ (n : Nat) (s : St), Okst k0 ev0 ns ars s → Lat s (fin (loopM c b n s))
  | 0, s, _ => Lat.refl s
  | n + 1, s, hs => by
    unfold loopM
    refine b0z (hc.safe s hs) (lc s hs) fun x s1 _ hs1 => ?_
    cases x
    · exact Lat.refl _
    · rw [if_pos rfl]
      exact b0z (hb.safe s1 hs1) (lb s1 hs1) fun _ s2 _ hs2 => b9E hc hb lc lb n s2 hs2
theorem b9F (s : St) : Lat s (fin (stepM s)) := by
  unfold stepM
  split
  · exact Lat.refl s
  · exact ⟨by show s.steps ≤ s.steps + 1; omega, [], by rw [List.append_nil]; rfl, rfl⟩
theorem Cm.later (h : Cm ns ars G m) : ∀ s, Okst k0 ev0 ns ars s → Lat s (fin (m s)) := by
  induction h with
  | ret _ => exact fun s _ => Lat.refl s
  | bnd h1 _ ih1 ih2 => exact fun s hs => b0z (h1.safe s hs) (ih1 s hs) fun a s' ha hs' => ih2 a ha s' hs'
  | halt a b _ => exact fun s _ => Lat.refl s
  | step => exact fun s _ => b9F s
  | get _ => exact fun s _ => Lat.refl s
  | set _ _ => exact fun s _ => ⟨Int.le_refl _, [], by rw [List.append_nil]; rfl, rfl⟩
  | input =>
    intro s _
    unfold inM
    split
    · exact Lat.refl s
    · rename_i n r hsc
      split
      · exact Lat.refl s
      · exact ⟨by show s.steps ≤ s.steps + 1; omega, [⟨true, n, false⟩], rfl, hsc⟩
  | item _ _ =>
    intro s _
    unfold boundM
    split
    · exact Lat.refl s
    · exact Lat.refl s
  | cell _ _ => exact fun s _ => Lat.refl s
  | put _ _ _ => exact fun s _ => ⟨Int.le_refl _, [], by rw [List.append_nil]; rfl, rfl⟩
  | held b =>
    intro s hs
    unfold heldM
    refine b0z (b0s s hs) (b9F s) fun _ s1 _ _ => ⟨Int.le_refl _, [⟨false, 0, b⟩], rfl, rfl⟩
  | loop hc hb _ ih1 ih2 => exact fun s hs => b9E hc hb ih1 ih2 _ s hs
def upS (s : St) : St := { s with left := s.left + 1 }
theorem b9G {s : St} (h : Okst k0 ev0 ns ars s) : Okst (k0 + 1) (ev0 + 1) ns ars (upS s) := by
  obtain ⟨h1, h2, h3, h4, h5, h6, h7, h8⟩ := h
  exact ⟨by show s.steps + ((s.left + 1 : Nat) : Int) = k0 + 1; omega, h2, by show s.events.length + (s.left + 1) ≤ ev0 + 1; omega, h4, h5, h6, h7, h8⟩
def SimU : Rs α → Rs α → Prop
  | .ok a s, r => r = .ok a (upS s)
  | .stop x y s, r => (x = 1 → Lat s (fin r)) ∧ (x ≠ 1 → r = .stop x y (upS s))
theorem e7f {β : Type} {F : α → Prop} {k : α → M β} {s : St} (hs : Okst k0 ev0 ns ars s) (hm : Cm ns ars F m) (hk : ∀ a, F a → ∃ G, Cm ns ars G (k a)) (h1 : SimU (m s) (m (upS s))) (h2 : ∀ a s', F a → Okst k0 ev0 ns ars s' → SimU (k a s') (k a (upS s'))) : SimU (bnd m k s) (bnd m k (upS s)) := by
  have hp := hm.safe s hs
  have hp2 := hm.safe (upS s) (b9G hs)
  unfold bnd
  cases e : m s with
  | ok a s1 =>
    rw [e] at h1 hp
    rw [show m (upS s) = .ok a (upS s1) from h1]
    exact h2 a s1 hp.1 hp.2.1
  | stop x y s1 =>
    rw [e] at h1
    refine ⟨fun hx => ?_, fun hx => ?_⟩
    · have h3 := h1.1 hx
      cases e2 : m (upS s) with
      | ok a s2 =>
        rw [e2] at h3 hp2
        obtain ⟨G, hg⟩ := hk a hp2.1
        exact Lat.trans h3 (hg.later s2 hp2.2.1)
      | stop x2 y2 s2 => rw [e2] at h3; exact h3
    · rw [h1.2 hx]; rfl
theorem c6Z {c : M Bool} {b : M Unit} (hc : Cm ns ars (fun _ => True) c) (hb : Cm ns ars (fun _ => True) b) (hd : Dec ns ars c) (sc : ∀ s, Okst k0 ev0 ns ars s → SimU (c s) (c (upS s))) (sb : ∀ s, Okst k0 ev0 ns ars s → SimU (b s) (b (upS s))) : ∀ (n : Nat) (s : St), Okst k0 ev0 ns ars s → s.left < n → SimU (loopW c b s) (loopW c b (upS s))
  | 0, s, _, h => by omega
  | n + 1, s, hs, hn => by
    rw [b7w hc hb hd hs, b7w hc hb hd (b9G hs)]
    have hcm : ∀ h : Bool, Cm ns ars (fun _ => True) (if h = true then bnd b fun _ => loopW c b else ret ()) := fun h => by
      cases h
      · exact .ret trivial
      · exact .bnd hb fun _ _ => .loop hc hb hd
    have hp := hc.safe s hs
    have hp2 := hc.safe (upS s) (b9G hs)
    have h1 := sc s hs
    unfold bnd
    cases e : c s with
    | stop x y s1 =>
      rw [e] at h1
      refine ⟨fun hx => ?_, fun hx => by rw [h1.2 hx]; rfl⟩
      have h3 := h1.1 hx
      cases e2 : c (upS s) with
      | ok a s2 => rw [e2] at h3 hp2; exact Lat.trans h3 ((hcm a).later s2 hp2.2.1)
      | stop x2 y2 s2 => rw [e2] at h3; exact h3
    | ok x s1 =>
      rw [e] at h1 hp
      rw [show c (upS s) = .ok x (upS s1) from h1]
      have hl := hd _ _ _ _ _ hs e
      show SimU ((if x = true then bnd b fun _ => loopW c b else ret ()) s1) ((if x = true then bnd b fun _ => loopW c b else ret ()) (upS s1))
      cases x
      · exact rfl
      · rw [if_pos rfl]
        have hs1 := hp.2.1
        have hq := hb.safe s1 hs1
        have hq2 := hb.safe (upS s1) (b9G hs1)
        have h4 := sb s1 hs1
        unfold bnd
        cases e3 : b s1 with
        | ok y s2 =>
          rw [e3] at h4 hq
          rw [show b (upS s1) = .ok y (upS s2) from h4]
          exact c6Z hc hb hd sc sb n s2 hq.2.1 (by have := hq.2.2; omega)
        | stop x' y' s2 =>
          rw [e3] at h4
          refine ⟨fun hx => ?_, fun hx => by rw [h4.2 hx]; rfl⟩
          have h5 := h4.1 hx
          cases e4 : b (upS s1) with
          | ok a s3 => rw [e4] at h5 hq2; exact Lat.trans h5 ((Cm.loop hc hb hd).later s3 hq2.2.1)
          | stop x2 y2 s3 => rw [e4] at h5; exact h5
theorem c7a (s : St) : SimU (stepM s) (stepM (upS s)) := by
  unfold stepM
  rw [if_neg (show ¬ (upS s).left = 0 from Nat.succ_ne_zero _)]
  split
  · exact ⟨fun _ => ⟨by show s.steps ≤ s.steps + 1; omega, [], by rw [List.append_nil]; rfl, rfl⟩, fun h => (h rfl).elim⟩
  · show Rs.ok () _ = Rs.ok () _
    congr 1
    unfold upS
    simp only [St.mk.injEq, and_true]
    omega
theorem Cm.sim (h : Cm ns ars G m) : ∀ s, Okst k0 ev0 ns ars s → SimU (m s) (m (upS s)) := by
  induction h with
  | ret _ => exact fun s _ => rfl
  | bnd h1 h2 ih1 ih2 => exact fun s hs => e7f hs h1 (fun a ha => ⟨_, h2 a ha⟩) (ih1 s hs) fun a s' ha hs' => ih2 a ha s' hs'
  | halt a b h =>
    intro s _
    refine ⟨fun e => ?_, fun _ => rfl⟩
    omega
  | step => exact fun s _ => c7a s
  | get _ => exact fun s _ => rfl
  | set _ _ => exact fun s _ => rfl
  | input =>
    intro s _
    unfold inM
    cases hsc : s.script with
    | nil =>
      rw [show (upS s).script = [] from hsc]
      exact ⟨fun e => by omega, fun _ => rfl⟩
    | cons n r =>
      rw [show (upS s).script = n :: r from hsc]
      dsimp only
      rw [if_neg (show ¬ (upS s).left = 0 from Nat.succ_ne_zero _)]
      split
      · exact ⟨fun _ => ⟨by show s.steps ≤ s.steps + 1; omega, [⟨true, n, false⟩], rfl, hsc⟩, fun h => (h rfl).elim⟩
      · show Rs.ok n _ = Rs.ok n _
        congr 1
        unfold upS
        simp only [St.mk.injEq, and_true]
        omega
  | item _ _ =>
    intro s _
    unfold boundM
    rw [show rowOf _ (upS s) = rowOf _ s from rfl]
    split
    · exact ⟨fun e => by omega, fun _ => rfl⟩
    · rfl
  | cell _ _ => exact fun s _ => rfl
  | put _ _ _ => exact fun s _ => rfl
  | held b =>
    intro s hs
    unfold heldM
    have h1 := c7a s
    unfold Go.Proofs.YtnhkdkcgdcgmdaaDoor.bnd
    cases e : stepM s with
    | ok a s1 => rw [e] at h1; rw [show stepM (upS s) = .ok a (upS s1) from h1]; rfl
    | stop x y s1 =>
      rw [e] at h1
      refine ⟨fun hx => ?_, fun hx => by rw [h1.2 hx]; rfl⟩
      have h3 := h1.1 hx
      cases e2 : stepM (upS s) with
      | ok a s2 => rw [e2] at h3; exact Lat.trans h3 ⟨Int.le_refl _, [⟨false, 0, b⟩], rfl, rfl⟩
      | stop x2 y2 s2 => rw [e2] at h3; exact h3
  | loop hc hb hd ih1 ih2 => exact fun s hs => c6Z hc hb hd ih1 ih2 _ s hs (Nat.lt_succ_self _)
def chg (y : Int) (s : St) : St := { s with script := s.script.dropLast ++ [y] }
def chgR (y : Int) : Rs α → Rs α
  | .ok a s => .ok a (chg y s)
  | .stop x z s => .stop x z (chg y s)
theorem g1m {a b : St} (h : Lat a b) (hb : b.script ≠ []) : a.script ≠ [] := by
  obtain ⟨_, l, _, h⟩ := h
  rw [h]
  intro e
  exact hb (List.append_eq_nil_iff.1 e).2
theorem c1k {β : Type} {F : α → Prop} {k : α → M β} {s : St} {y : Int} (hs : Okst k0 ev0 ns ars s) (hm : Cm ns ars F m) (hk : ∀ a, F a → ∃ G, Cm ns ars G (k a)) (hf : (fin (bnd m k s)).script ≠ []) (h1 : (fin (m s)).script ≠ [] → m (chg y s) = chgR y (m s)) (h2 : ∀ a s', F a → Okst k0 ev0 ns ars s' → (fin (k a s')).script ≠ [] → k a (chg y s') = chgR y (k a s')) : bnd m k (chg y s) = chgR y (bnd m k s) := by
  have hp := hm.safe s hs
  unfold bnd at hf ⊢
  cases e : m s with
  | ok a s1 =>
    rw [e] at h1 hp hf
    obtain ⟨G, hg⟩ := hk a hp.1
    have hf' : (fin (k a s1)).script ≠ [] := hf
    have := h1 (g1m (hg.later s1 hp.2.1) hf')
    rw [this]
    exact h2 a s1 hp.1 hp.2.1 hf'
  | stop x z s1 =>
    rw [e] at h1 hf
    rw [h1 hf]; rfl
theorem c7b {c : M Bool} {b : M Unit} {y : Int} (hc : Cm ns ars (fun _ => True) c) (hb : Cm ns ars (fun _ => True) b) (sc : ∀ s, Okst k0 ev0 ns ars s → (fin (c s)).script ≠ [] → c (chg y s) = chgR y (c s)) (sb : ∀ s, Okst k0 ev0 ns ars s → (fin (b s)).script ≠ [] → b (chg y s) = chgR y (b s)) : ∀ (n : Nat) (s : St), Okst k0 ev0 ns ars s → (fin (loopM c b n s)).script ≠ [] → loopM c b n (chg y s) = chgR y (loopM c b n s)
  | 0, s, _, _ => rfl
  | n + 1, s, hs, hf => by
    have hL : ∀ n, Cm ns ars (fun _ => True) (loopM c b n) := fun n => by
      induction n with
      | zero => exact .ret trivial
      | succ n ih =>
        refine .bnd hc fun h _ => ?_
        cases h
        · exact .ret trivial
        · exact .bnd hb fun _ _ => ih
    unfold loopM at hf ⊢
    refine c1k hs hc (fun h _ => ⟨fun _ => True, ?_⟩) hf (sc s hs) fun h s1 _ hs1 hf1 => ?_
    · cases h
      · exact .ret trivial
      · exact .bnd hb fun _ _ => hL n
    · cases h
      · rfl
      · rw [if_pos rfl] at hf1 ⊢
        exact c1k hs1 hb (fun _ _ => ⟨_, hL n⟩) hf1 (sb s1 hs1) fun _ s2 _ hs2 hf2 => c7b hc hb sc sb n s2 hs2 hf2
theorem c7c (y : Int) (s : St) : stepM (chg y s) = chgR y (stepM s) := by
  unfold stepM
  rw [show (chg y s).left = s.left from rfl]
  split <;> rfl
theorem Cm.chg {y : Int} (h : Cm ns ars G m) : ∀ s, Okst k0 ev0 ns ars s → (fin (m s)).script ≠ [] → m (chg y s) = chgR y (m s) := by
  induction h with
  | ret _ => exact fun s _ _ => rfl
  | bnd h1 h2 ih1 ih2 => exact fun s hs hf => c1k hs h1 (fun a ha => ⟨_, h2 a ha⟩) hf (ih1 s hs) fun a s' ha hs' hf' => ih2 a ha s' hs' hf'
  | halt a b h => exact fun s _ _ => rfl
  | step => exact fun s _ _ => c7c y s
  | get _ => exact fun s _ _ => rfl
  | set _ _ => exact fun s _ _ => rfl
  | input =>
    intro s _ hf
    unfold inM at hf ⊢
    cases hsc : s.script with
    | nil => rw [hsc] at hf; exact (hf hsc).elim
    | cons n r =>
      rw [hsc] at hf
      dsimp only at hf
      cases r with
      | nil =>
        by_cases h0 : s.left = 0
        · have e1 : (Go.Proofs.YtnhkdkcgdcgmdaaDoor.chg y s).script = [y] := by show s.script.dropLast ++ [y] = [y]; rw [hsc]; rfl
          rw [e1]
          dsimp only
          rw [if_pos h0, if_pos (show (Go.Proofs.YtnhkdkcgdcgmdaaDoor.chg y s).left = 0 from h0)]
          rfl
        · rw [if_neg h0] at hf
          exact (hf rfl).elim
      | cons n2 r2 =>
        have e1 : (Go.Proofs.YtnhkdkcgdcgmdaaDoor.chg y s).script = n :: ((n2 :: r2).dropLast ++ [y]) := by show s.script.dropLast ++ [y] = _; rw [hsc]; rfl
        rw [e1]
        dsimp only
        rw [show (Go.Proofs.YtnhkdkcgdcgmdaaDoor.chg y s).left = s.left from rfl]
        split <;> rfl
  | item _ _ =>
    intro s _ _
    unfold boundM
    rw [show rowOf _ (Go.Proofs.YtnhkdkcgdcgmdaaDoor.chg y s) = rowOf _ s from rfl]
    split <;> rfl
  | cell _ _ => exact fun s _ _ => rfl
  | put _ _ _ => exact fun s _ _ => rfl
  | held b =>
    intro s hs _
    unfold heldM
    have h1 := c7c y s
    unfold Go.Proofs.YtnhkdkcgdcgmdaaDoor.bnd
    rw [h1]
    cases stepM s <;> rfl
  | loop hc hb _ ih1 ih2 => exact fun s hs hf => c7b hc hb ih1 ih2 _ s hs hf
end
end Go.Proofs.YtnhkdkcgdcgmdaaDoor
