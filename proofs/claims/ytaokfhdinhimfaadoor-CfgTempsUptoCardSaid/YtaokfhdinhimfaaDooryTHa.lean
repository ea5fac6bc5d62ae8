/- Full trees of sums: how many temporaries they take. -/
import Derived.Test.YtaokfhdinhimfaaDooryTH6
namespace Go.Proofs.YtaokfhdinhimfaaDoor
open Go.RowKit
set_option maxRecDepth 100000
set_option maxHeartbeats 2000000
def sumP : Nat → PT
  | 0 => .mk (.expr 2 0 xS 0) []
  | h + 1 => .mk (.expr 6 0 ⟨#[]⟩ 2) [sumP h, sumP h]
def tmP (h : Nat) : PP := ⟨[⟨xS, 0⟩], [.mk (.stmt 1 xS 1 0 0 0) [sumP h]]⟩
def okT (h : Nat) : Bool := decide (loE (tmP h) = 0) && decide ((loS (tmP h)).t = if h < 2 then 0 else (h : Int)) && (decide (h < 2) || (decide ((loS (tmP h)).es.length = 2 ^ h - 1) && decide ((loS (tmP h)).p = 2 ^ h)))
theorem b7i {h : Nat} (hh : h ≤ 9) : okT h = true := by
  obtain rfl | rfl | rfl | rfl | rfl | rfl | rfl | rfl | rfl | rfl := (by omega : h = 0 ∨ h = 1 ∨ h = 2 ∨ h = 3 ∨ h = 4 ∨ h = 5 ∨ h = 6 ∨ h = 7 ∨ h = 8 ∨ h = 9) <;> kernel_rfl
theorem b7j {h : Nat} (hh : h ≤ 9) : shlI .i64 1 (h : Int) = ((2 ^ h : Nat) : Int) ∧ IntKind.wrap .i64 (shlI .i64 1 (h : Int) - 1) = ((2 ^ h - 1 : Nat) : Int) := by
  obtain rfl | rfl | rfl | rfl | rfl | rfl | rfl | rfl | rfl | rfl := (by omega : h = 0 ∨ h = 1 ∨ h = 2 ∨ h = 3 ∨ h = 4 ∨ h = 5 ∨ h = 6 ∨ h = 7 ∨ h = 8 ∨ h = 9) <;> exact ⟨by kernel_rfl, by kernel_rfl⟩
theorem a8g : ∀ h : Nat, Sm (sumP h)
  | 0 => .mk (by decide) fun t ht => by cases ht
  | h + 1 => .mk (by decide) fun t ht => by
    rcases List.mem_cons.1 ht with e | ht
    · rw [e]; exact a8g h
    · rw [List.mem_singleton] at ht; rw [ht]; exact a8g h
theorem b7k (h : Nat) : (tmP h).Sm := by
  intro t ht
  rcases List.mem_cons.1 ht with e | ht
  · rw [e]; exact .mk (by decide) fun t ht => by cases ht
  · have ht' : t ∈ [PT.mk (.stmt 1 xS 1 0 0 0) [sumP h]] := ht
    rw [List.mem_singleton] at ht'
    rw [ht']
    refine .mk (by decide) fun t ht => ?_
    rw [List.mem_singleton] at ht; rw [ht]; exact a8g h
section
variable {H : Hp}
structure RowE (H : Hp) (k n : Int) (s : ByteArray) (g : List d8) (t : PT) : Prop where
  b : g.length ≤ 2
  t : ∃ ts : List PT, t = .mk (.expr k n s ts.length) ts ∧ z6 (EH H) g ts
theorem RowE.le {H' : Hp} {k n : Int} {s : ByteArray} {g : List d8} {t : PT} (h : RowE H k n s g t) (l : Hle H H') : RowE H' k n s g t := by
  obtain ⟨b, ts, e, r⟩ := h
  exact ⟨b, ts, e, r.mono fun _ _ => EH.le l⟩
theorem RowE.eh {k n : Int} {s : ByteArray} {g : List d8} {t : PT} {a : Sl} (h : RowE H k n s g t) (ha : SlH H 4 d9 a g) : EH H (d8.mk k n s a) t := by
  obtain ⟨b, ts, rfl, r⟩ := h
  exact EH.mk (e := d8.mk k n s a) ha (by simp only [big]; omega) r.1 r.2
theorem b0A (hT : TabsH H) {a : Int} {X : Prop} (_ : X) {K : Bool → Hp → Prop} (h : ∀ H', Hle H H' → K true H') : O6 a H K := by
  refine a2v _ ?_
  unfold P0
  refine b2U hT fun H1 l1 => ⟨fun e => (by cases e), fun _ => ⟨fun _ => h H1 l1, fun q => ?_⟩⟩
  simp only [Bool.or_eq_false_iff, decide_eq_false_iff_not] at q
  obtain ⟨n, rfl⟩ := Int.eq_ofNat_of_zero_le (show 0 ≤ a by omega)
  have hn : n ≤ 9 := by omega
  refine Y7 (fun st H' => Hle H1 H' ∧ ∃ (i : Nat) (k m : Int) (s : ByteArray) (g : List d8), i ≤ n ∧ st = ((i : Int), k, m, s, g) ∧ RowE H' k m s g (sumP i)) (fun st => n - st.1.toNat) ⟨Hle.refl _, 0, 2, 0, ⟨#[120]⟩, [], by omega, rfl, ⟨by simp, [], rfl, z6.nil⟩⟩ ?_
  rintro st H2 next ⟨l2, i, k, m, s, g, hi, rfl, hr⟩ hnx
  dsimp only
  unfold G0
  refine ⟨fun c => ?_, fun c => ?_⟩
  · intro sl H3 l3 hs _
    rw [B0 (by omega) (by omega)]
    have he := (hr.le l3).eh hs
    refine hnx _ _ ⟨l2.trans l3, i + 1, 6, 0, ⟨#[]⟩, _, by omega, rfl, ⟨by simp, [sumP i, sumP i], rfl, ⟨rfl, fun j x t hx ht => ?_⟩⟩⟩ (by dsimp only; omega)
    cases j with
    | zero => simp only [List.getElem?_cons_zero, Option.some.injEq] at hx ht; subst hx; subst ht; exact he
    | succ j => cases j with
      | zero => simp only [List.getElem?_cons_succ, List.getElem?_cons_zero, Option.some.injEq] at hx ht; subst hx; subst ht; exact he
      | succ j => simp at hx
  obtain rfl : i = n := by omega
  unfold F8
  intro s3 H3 l3 hs3 _ s4 H4 l4 hs4 _ s5 H5 l5 hs5 _ s6 H6 l6 hs6 _
  have he := (((hr.le l3).eh hs3).le l4)
  have l46 := l5.trans l6
  have hst : SH H6 (l9.mk 1 ⟨#[120]⟩ s4 (Sl.mk none 0 0) (Sl.mk none 0 0) (Sl.mk none 0 0)) (.mk (.stmt 1 xS 1 0 0 0) [sumP i]) :=
    SH.mk (ts := [sumP i]) (us := []) (vs := []) (ws := []) (s := l9.mk 1 ⟨#[120]⟩ s4 (Sl.mk none 0 0) (Sl.mk none 0 0) (Sl.mk none 0 0)) (hs4.le l46) (by simp [big]) (z6.one (he.le l46)) (SlH.nil _ _ _) (Nat.zero_le _) z6.nil (SlH.nil _ _ _) (Nat.zero_le _) rfl (fun i x t h => by simp at h) (SlH.nil _ _ _) (Nat.zero_le _) rfl (fun i x t h => by simp at h)
  have lH : Hle H H6 := l1.trans (l2.trans (l3.trans (l4.trans l46)))
  have hok := b7i hn
  unfold okT at hok
  simp only [Bool.and_eq_true, Bool.or_eq_true, decide_eq_true_eq] at hok
  obtain ⟨⟨k1, k2⟩, k3⟩ := hok
  refine b0l (hT.le lH) (q := tmP i) ⟨hs5.le l6, by simp [tmP, big], _, hs6, by simp [big], z6.one hst⟩ (b7k i) (fun e => (e k1).elim) fun _ c H7 l7 hc => ?_
  have lH7 := lH.trans l7
  obtain ⟨F, hrow, hF, _⟩ := hc.e
  have hes := (hrow.frozen (by decide) hF).1
  obtain ⟨z1, z2⟩ := b7j hn
  refine ⟨fun c2 => ?_, fun c2 => ⟨fun _ => by omega, fun _ => by omega, ?_⟩⟩
  · rw [hc.t, k2, if_pos (by omega)]
    simpa using h H7 lH7
  · rcases k3 with k3 | ⟨k3, k4⟩
    · omega
    · rw [hc.t, k2, if_neg (by omega), hc.p, k4, z2, z1, hes, k3]
      simpa using h H7 lH7
end
end Go.Proofs.YtaokfhdinhimfaaDoor
