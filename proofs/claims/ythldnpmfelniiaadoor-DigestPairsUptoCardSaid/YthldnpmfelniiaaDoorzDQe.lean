/- What is known of digests; the laws DigestSteps, DigestExact, DigestLengths, DigestPairs. Contracts off the printed formulas. -/
import Derived.Test.YthldnpmfelniiaaDoorzDQd
namespace Go.Proofs.YthldnpmfelniiaaDoor
open Go.RowKit
set_option maxRecDepth 100000
set_option maxHeartbeats 2000000
theorem a6D {P : Program} {E : Pan} {w : World} {K : Value → World → Prop} {s : Sem Next} (h : opK P E s w K) : opK P E (gsem (asB (.bool true)) true s) w K := by
  rw [b3g]; exact h
theorem b8L (v : Value) : gval (asB (.bool true)) true v = v := by rw [J1]; rfl
def knP : PP := ⟨[⟨xS, 0⟩], []⟩
def knB : List Int := [68, 0, 0, 0, 0, 0, 0, 0, 0, 0, 120, 0, 0, 0, 0, 0]
theorem d3t : toldS knP.nodes = 0 := by kernel_rfl
theorem d0o : bytesOf knP = knB := by kernel_rfl
theorem f5t : ofS [97] = 12638187200555641996 := by kernel_rfl
theorem e8Z : knP.Sm := by
  intro t ht
  rcases List.mem_cons.1 ht with e | ht
  · rw [e]; exact .mk (by decide) fun t ht => by cases ht
  · cases ht
section
variable {H : Hp}
theorem c7N (hT : TabsH H) {K : Bool → Hp → Prop} (h : ∀ H', Hle H H' → K true H') : a3C H K := by
  intro w I
  refine e6Z ?_
  unfold F21
  refine a8 (c3y _) ?_
  refine a6N (e := 67) (c := k8) (xs := [⟨xS, 0⟩]) I (d4v xS 0) rfl rfl b9d b9e (nb rfl) fun s F w2 hr I2 k => ?_
  obtain ⟨H3, I3, l3, h3, _⟩ := Inv.freezeC I2 hr (by decide)
  refine a8 (c3z _ _ _) ?_
  refine d7 (cap := []) (fun args w => Tryd.call31 args w) ?_
  have hp : PH H3 ⟨s, ⟨none, 0, 0⟩⟩ knP := ⟨h3, by simp [knP, big], [], SlH.nil _ _ _, Nat.zero_le _, E0.nil⟩
  refine i6 (Fi := []) (Fr := []) I3 (b2U (hT.le l3) hp e8Z (K := fun s e H' => SlH H' 1 o0 s knB ∧ e = 0) fun s' H' l hS => ⟨by rw [← d0o]; exact hS, d3t⟩) (fun v H4 Fo w4 I4 l4 hk q => ?_) (fun _ _ _ _ _ q => q.elim)
  obtain ⟨sb, e, rfl, rfl, hS, rfl⟩ := q
  refine a8 (r8 _ _ _ rfl) ?_
  refine a8 (r8 _ _ _ rfl) ?_
  refine a8 (f7 _ _ _ _ _ _) ?_
  rw [decide_eq_true rfl]
  simp only [b8L]
  refine a6D (a8 (b8R _ _ _) ?_)
  refine a6D (a8 (f7 _ _ _ _ _ _) ?_)
  rw [decide_eq_true (show ((sb.n : Int) = 16) by have n1 : sb.n = 16 := hS.1; omega)]
  refine a8 (b0Q _ _ _) ?_
  simp only [cond_true, b8L]
  obtain ⟨g, o, ha, hA⟩ := hS.2 0 68 rfl
  refine a6D (a8 (b9K ha _ _ _ 0 (Int.le_refl _) (by have n1 : sb.n = 16 := hS.1; omega)) ?_)
  refine a6D (b7 (ld1 Tryd.isAgg5 (I4.atH hA)) ?_)
  refine a6D (a8 (f7 _ _ _ _ _ _) ?_)
  rw [decide_eq_true rfl]
  refine a8 (b0Q _ _ _) ?_
  simp only [cond_true, b8L]
  refine a6D (a0q (b4F 97 _) ?_)
  refine a6D (a0q (Lib.run_convert_bytes_const w4 40 5 #[.int .u8 97] 1 1 Tryd.underlying40 Tryd.underlying5) ?_)
  have I5 := I4.alloc (.cells #[.int .u8 97] 5 (1, 2))
  obtain ⟨I6, l6, h6⟩ := I5.freeze
  have hS6 : SlH (addF H4 [(w4.heap.size, .cells #[.int .u8 97] 5 (1, 2))]) 1 o0 ⟨some ⟨w4.heap.size, 0, none⟩, 1, 1⟩ [97] := by
    refine ⟨rfl, fun i x hx => ?_⟩
    match i, hx with
    | 0, hx =>
      cases hx
      exact ⟨_, 0, rfl, _, _, _, h6 _ (List.mem_cons_self ..), by decide, rfl⟩
  refine a6D (d7 (cap := []) (fun args w => Tryd.call22 args w) ?_)
  refine i6 (Fi := []) (Fr := []) I6 (d4h hS6 (by decide) (K := fun r H' => r = 12638187200555641996 ∧ H' = addF H4 [(w4.heap.size, .cells #[.int .u8 97] 5 (1, 2))]) ⟨f5t, rfl⟩) (fun v H7 Fo w7 I7 l7 hk7 q => ?_) (fun _ _ _ _ _ q => q.elim)
  obtain ⟨r, rfl, rfl, rfl, rfl⟩ := q
  refine a6D (a8 (f7 _ _ _ _ _ _) ?_)
  rw [decide_eq_true rfl]
  refine a8 (b0Q _ _ _) ?_
  simp only [cond_true]
  exact ⟨_, [], I7, true, rfl, rfl, h _ (l3.trans (l4.trans l6))⟩
theorem b8M (hT : TabsH H) {p p' : f6} {q q' : PP} (hp : PH H p q) (hsm : q.Sm) (hp' : PH H p' q') (hsm' : q'.Sm) {K : Bool → Hp → Prop} (h : ∀ H', Hle H H' → K true H') : W8 p p' H K := by
  refine a5w _ _ ?_
  unfold P9
  refine c7N hT fun H1 l1 => ⟨fun e => (by cases e), fun _ => ?_⟩
  refine b2U (hT.le l1) (hp.le l1) hsm fun s2 H2 l2 hS2 => ?_
  have l12 := l1.trans l2
  refine b2U (hT.le l12) (hp'.le l12) hsm' fun s3 H3 l3 hS3 => ?_
  have l13 := l12.trans l3
  refine b7G (hT.le l13) (hp.le l13) hsm fun H4 l4 => ?_
  have l14 := l13.trans l4
  refine b7G (hT.le l14) (hp'.le l14) hsm' fun H5 l5 => ?_
  have l15 := l14.trans l5
  refine c9R (hp.le l15) (hp'.le l15) ⟨fun hbad => ?_, fun hgood => ?_⟩
  · refine c3t (hT.le l15) (hp.le l15) hsm (hp'.le l15) hsm' fun H6 l6 => ?_
    have := h H6 (l15.trans l6)
    have e : ((decide (toldS q.nodes = 0)) && (decide (toldS q'.nodes = 0))) = false := by
      generalize decide (toldS q.nodes = 0) = a at hbad ⊢
      generalize decide (toldS q'.nodes = 0) = b at hbad ⊢
      cases a <;> cases b <;> first | rfl | cases hbad
    rw [e]; exact this
  · have e1 : decide (toldS q.nodes = 0) = true ∧ decide (toldS q'.nodes = 0) = true := by
      generalize decide (toldS q.nodes = 0) = a at hgood ⊢
      generalize decide (toldS q'.nodes = 0) = b at hgood ⊢
      cases a <;> cases b <;> first | exact ⟨rfl, rfl⟩ | cases hgood
    have eqb : eqS q q' = true → bytesOf q = bytesOf q' := fun e => by
      unfold eqS at e
      obtain ⟨e2, e3⟩ := Bool.and_eq_true_iff.1 e
      obtain ⟨_, e4⟩ := Bool.and_eq_true_iff.1 e2
      have e5 := b8E.1 e4
      have e6 := a9v.1 e3
      have : q = q' := by cases q; cases q'; dsimp only at e5 e6; rw [e5, e6]
      rw [this]
    have fin : ∀ H6, Hle H5 H6 → R6 p p' H6 (fun (r : Bool) (b6t : Hp) => K (r == ((!eqS q q') && (decide (sumOf q = sumOf q')))) b6t) := fun H6 l6 => by
      have l16 := l15.trans l6
      refine c3t (hT.le l16) (hp.le l16) hsm (hp'.le l16) hsm' fun H7 l7 => ?_
      have := h H7 (l16.trans l7)
      rw [e1.1, e1.2, Bool.true_and, Bool.true_and, Bool.and_comm, beq_self_eq_true]; exact this
    cases hE : eqS q q'
    · rw [hE] at fin
      exact ⟨fun e => (by cases e), fun _ => ⟨fun e => (by cases e), fun _ => fin H5 (Hle.refl _)⟩⟩
    · rw [hE] at fin
      have hS2' := hS2
      rw [eqb hE] at hS2'
      refine ⟨fun _ => d0n (hS2'.le (l3.trans (l4.trans l5))) (hS3.le (l4.trans l5)) ?_, fun e => (e rfl).elim⟩
      exact ⟨fun e => (by cases e), fun _ => fin H5 (Hle.refl _)⟩
end
end Go.Proofs.YthldnpmfelniiaaDoor
