/- What is known of digests; the laws DigestSteps, DigestExact, DigestLengths, DigestPairs. Contracts off the printed formulas. -/
import Derived.Test.YthldnpmfelniiaaDoorzXQd
namespace Go.Proofs.YthldnpmfelniiaaDoor
open Go.RowKit
set_option maxRecDepth 100000
set_option maxHeartbeats 2000000
theorem a8C {P : Program} {E : Pan} {w : World} {K : Value → World → Prop} {s : Sem Next} (h : opK P E s w K) : opK P E (gsem (asB (.bool true)) true s) w K := by
  rw [b5c]; exact h
theorem c1U (v : Value) : gval (asB (.bool true)) true v = v := by rw [m1]; rfl
def knP : PP := ⟨[⟨xS, 0⟩], []⟩
def knB : List Int := [68, 0, 0, 0, 0, 0, 0, 0, 0, 0, 120, 0, 0, 0, 0, 0]
theorem d9B : toldS knP.nodes = 0 := by kernel_rfl
theorem d5F : bytesOf knP = knB := by kernel_rfl
theorem g8g : ofS [97] = 12638187200555641996 := by kernel_rfl
theorem f9J : knP.Sm := by
  intro t ht
  rcases List.mem_cons.1 ht with e | ht
  · rw [e]; exact .mk (by decide) fun t ht => by cases ht
  · cases ht
section
variable {H : Hp}
theorem d3f (hT : TabsH H) {K : Bool → Hp → Prop} (h : ∀ H', Hle H H' → K true H') : a5r H K := by
  intro w I
  refine f5M ?_
  unfold F21
  refine a7 (c7P _) ?_
  refine a5y (e := 67) (c := p5) (xs := [⟨xS, 0⟩]) I (e0P xS 0) rfl rfl c2o c2p (nb rfl) fun s F w2 hr I2 k => ?_
  obtain ⟨H3, I3, l3, h3, _⟩ := Inv.freezeC I2 hr (by decide)
  refine a7 (c7Q _ _ _) ?_
  refine f6 (cap := []) (fun args w => Tryd.call31 args w) ?_
  have hp : PH H3 ⟨s, ⟨none, 0, 0⟩⟩ knP := ⟨h3, by simp [knP, big], [], SlH.nil _ _ _, Nat.zero_le _, F5.nil⟩
  refine i6 (Fi := []) (Fr := []) I3 (b8O (hT.le l3) hp f9J (K := fun s e H' => SlH H' 1 g8 s knB ∧ e = 0) fun s' H' l hS => ⟨by rw [← d5F]; exact hS, d9B⟩) (fun v H4 Fo w4 I4 l4 hk q => ?_) (fun _ _ _ _ _ q => q.elim)
  obtain ⟨sb, e, rfl, rfl, hS, rfl⟩ := q
  refine a7 (r7 _ _ _ rfl) ?_
  refine a7 (r7 _ _ _ rfl) ?_
  refine a7 (d4 _ _ _ _ _ _) ?_
  rw [decide_eq_true rfl]
  simp only [c1U]
  refine a8C (a7 (b5g _ _ _) ?_)
  refine a8C (a7 (d4 _ _ _ _ _ _) ?_)
  rw [decide_eq_true (show ((sb.n : Int) = 16) by have n1 : sb.n = 16 := hS.1; omega)]
  refine a7 (b2S _ _ _) ?_
  simp only [cond_true, c1U]
  obtain ⟨g, o, ha, hA⟩ := hS.2 0 68 rfl
  refine a8C (a7 (b7D ha _ _ _ 0 (Int.le_refl _) (by have n1 : sb.n = 16 := hS.1; omega)) ?_)
  refine a8C (c5 (ld1 Tryd.isAgg5 (I4.atH hA)) ?_)
  refine a8C (a7 (d4 _ _ _ _ _ _) ?_)
  rw [decide_eq_true rfl]
  refine a7 (b2S _ _ _) ?_
  simp only [cond_true, c1U]
  refine a8C (a1L (a7h 97 _) ?_)
  refine a8C (a1L (Lib.run_convert_bytes_const w4 40 5 #[.int .u8 97] 1 1 Tryd.underlying40 Tryd.underlying5) ?_)
  have I5 := I4.alloc (.cells #[.int .u8 97] 5 (1, 2))
  obtain ⟨I6, l6, h6⟩ := I5.freeze
  have hS6 : SlH (addF H4 [(w4.heap.size, .cells #[.int .u8 97] 5 (1, 2))]) 1 g8 ⟨some ⟨w4.heap.size, 0, none⟩, 1, 1⟩ [97] := by
    refine ⟨rfl, fun i x hx => ?_⟩
    match i, hx with
    | 0, hx =>
      cases hx
      exact ⟨_, 0, rfl, _, _, _, h6 _ (List.mem_cons_self ..), by decide, rfl⟩
  refine a8C (f6 (cap := []) (fun args w => Tryd.call22 args w) ?_)
  refine i6 (Fi := []) (Fr := []) I6 (d3d hS6 (by decide) (K := fun r H' => r = 12638187200555641996 ∧ H' = addF H4 [(w4.heap.size, .cells #[.int .u8 97] 5 (1, 2))]) ⟨g8g, rfl⟩) (fun v H7 Fo w7 I7 l7 hk7 q => ?_) (fun _ _ _ _ _ q => q.elim)
  obtain ⟨r, rfl, rfl, rfl, rfl⟩ := q
  refine a8C (a7 (d4 _ _ _ _ _ _) ?_)
  rw [decide_eq_true rfl]
  refine a7 (b2S _ _ _) ?_
  simp only [cond_true]
  exact ⟨_, [], I7, true, rfl, rfl, h _ (l3.trans (l4.trans l6))⟩
theorem c1V (hT : TabsH H) {p : k5} {q : PP} (hp : PH H p q) (hsm : q.Sm) {s : Sl} {xs : List Int} (hs : SlH H 1 g8 s xs) (hb : xs.length ≤ sml) {K : Bool → Hp → Prop} (h : ∀ H', Hle H H' → K true H') : a0y p s H K := by
  refine a7g _ _ ?_
  unfold Q3
  simp only [sml] at hb
  refine d3f hT fun H1 l1 => ⟨fun e => (by cases e), fun _ => ?_⟩
  refine b8O (hT.le l1) (hp.le l1) hsm fun s2 H2 l2 hS2 => ?_
  have l12 := l1.trans l2
  refine c2m (hp.le l12) hsm fun s3 H3 l3 hS3 => ?_
  have l13 := l12.trans l3
  refine f9I (hT.le l13) (hp.le l13) hsm fun H4 l4 => ?_
  have l14 := l13.trans l4
  refine e4H (hp.le l14) hsm fun H5 l5 => ?_
  have l15 := l14.trans l5
  rw [decide_eq_true rfl, decide_eq_true rfl]
  refine ⟨fun _ => d5E (hS2.le (l3.trans (l4.trans l5))) (hS3.le (l4.trans l5)) ?_, fun e => (e rfl).elim⟩
  refine ⟨fun _ => d3d (hs.le l15) (by simp only [big]; omega) ?_, fun e => (e rfl).elim⟩
  refine ⟨fun _ => d5D (hs.le l15) (by simp only [big]; omega) ?_, fun e => (e rfl).elim⟩
  rw [decide_eq_true rfl]
  exact h H5 l15
end
end Go.Proofs.YthldnpmfelniiaaDoor
