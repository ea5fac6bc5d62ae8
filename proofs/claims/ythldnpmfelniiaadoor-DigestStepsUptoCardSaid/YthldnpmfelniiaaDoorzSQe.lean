/- What is known of digests; the laws DigestSteps, DigestExact, DigestLengths, DigestPairs. Contracts off the printed formulas. -/
import Derived.Test.YthldnpmfelniiaaDoorzSQd
namespace Go.Proofs.YthldnpmfelniiaaDoor
open Go.RowKit
set_option maxRecDepth 100000
set_option maxHeartbeats 2000000
theorem a1t {P : Program} {E : Pan} {w : World} {K : Value → World → Prop} {s : Sem Next} (h : opK P E s w K) : opK P E (gsem (asB (.bool true)) true s) w K := by
  rw [a5A]; exact h
theorem a9L (v : Value) : gval (asB (.bool true)) true v = v := by rw [M9]; rfl
def knP : PP := ⟨[⟨xS, 0⟩], []⟩
def knB : List Int := [68, 0, 0, 0, 0, 0, 0, 0, 0, 0, 120, 0, 0, 0, 0, 0]
theorem c0m : toldS knP.nodes = 0 := by kernel_rfl
theorem b7J : bytesOf knP = knB := by kernel_rfl
theorem d6f : ofS [97] = 12638187200555641996 := by kernel_rfl
theorem d0O : knP.Sm := by
  intro t ht
  rcases List.mem_cons.1 ht with e | ht
  · rw [e]; exact .mk (by decide) fun t ht => by cases ht
  · cases ht
section
variable {H : Hp}
theorem b5R (hT : TabsH H) {K : Bool → Hp → Prop} (h : ∀ H', Hle H H' → K true H') : W0 H K := by
  intro w I
  refine c8N ?_
  unfold F21
  refine a7 (b2U _) ?_
  refine a0S (e := 67) (c := i5) (xs := [⟨xS, 0⟩]) I (c1f xS 0) rfl rfl b0d b0e (nb rfl) fun s F w2 hr I2 k => ?_
  obtain ⟨H3, I3, l3, h3, _⟩ := Inv.freezeC I2 hr (by decide)
  refine a7 (b2V _ _ _) ?_
  refine d6 (cap := []) (fun args w => Tryd.call31 args w) ?_
  have hp : PH H3 ⟨s, ⟨none, 0, 0⟩⟩ knP := ⟨h3, by simp [knP, big], [], SlH.nil _ _ _, Nat.zero_le _, u4.nil⟩
  refine i2 (Fi := []) (Fr := []) I3 (c0l (hT.le l3) hp d0O (K := fun s e H' => SlH H' 1 f9 s knB ∧ e = 0) fun s' H' l hS => ⟨by rw [← b7J]; exact hS, c0m⟩) (fun v H4 Fo w4 I4 l4 hk q => ?_) (fun _ _ _ _ _ q => q.elim)
  obtain ⟨sb, e, rfl, rfl, hS, rfl⟩ := q
  refine a7 (u6 _ _ _ rfl) ?_
  refine a7 (u6 _ _ _ rfl) ?_
  refine a7 (f4 _ _ _ _ _ _) ?_
  rw [decide_eq_true rfl]
  simp only [a9L]
  refine a1t (a7 (a9S _ _ _) ?_)
  refine a1t (a7 (f4 _ _ _ _ _ _) ?_)
  rw [decide_eq_true (show ((sb.n : Int) = 16) by have n1 : sb.n = 16 := hS.1; omega)]
  refine a7 (a4e _ _ _) ?_
  simp only [cond_true, a9L]
  obtain ⟨g, o, ha, hA⟩ := hS.2 0 68 rfl
  refine a1t (a7 (b0I ha _ _ _ 0 (Int.le_refl _) (by have n1 : sb.n = 16 := hS.1; omega)) ?_)
  refine a1t (b7 (ld1 Tryd.isAgg5 (I4.atH hA)) ?_)
  refine a1t (a7 (f4 _ _ _ _ _ _) ?_)
  rw [decide_eq_true rfl]
  refine a7 (a4e _ _ _) ?_
  simp only [cond_true, a9L]
  refine a1t (O5 (a4g 97 _) ?_)
  refine a1t (O5 (Lib.run_convert_bytes_const w4 40 5 #[.int .u8 97] 1 1 Tryd.underlying40 Tryd.underlying5) ?_)
  have I5 := I4.alloc (.cells #[.int .u8 97] 5 (1, 2))
  obtain ⟨I6, l6, h6⟩ := I5.freeze
  have hS6 : SlH (addF H4 [(w4.heap.size, .cells #[.int .u8 97] 5 (1, 2))]) 1 f9 ⟨some ⟨w4.heap.size, 0, none⟩, 1, 1⟩ [97] := by
    refine ⟨rfl, fun i x hx => ?_⟩
    match i, hx with
    | 0, hx =>
      cases hx
      exact ⟨_, 0, rfl, _, _, _, h6 _ (List.mem_cons_self ..), by decide, rfl⟩
  refine a1t (d6 (cap := []) (fun args w => Tryd.call22 args w) ?_)
  refine i2 (Fi := []) (Fr := []) I6 (b5Q hS6 (by decide) (K := fun r H' => r = 12638187200555641996 ∧ H' = addF H4 [(w4.heap.size, .cells #[.int .u8 97] 5 (1, 2))]) ⟨d6f, rfl⟩) (fun v H7 Fo w7 I7 l7 hk7 q => ?_) (fun _ _ _ _ _ q => q.elim)
  obtain ⟨r, rfl, rfl, rfl, rfl⟩ := q
  refine a1t (a7 (f4 _ _ _ _ _ _) ?_)
  rw [decide_eq_true rfl]
  refine a7 (a4e _ _ _) ?_
  simp only [cond_true]
  exact ⟨_, [], I7, true, rfl, rfl, h _ (l3.trans (l4.trans l6))⟩
theorem a9M (hT : TabsH H) {s : Sl} {xs : List Int} (hs : SlH H 1 f9 s xs) (hb : xs.length ≤ sml) {c : Int} {K : Bool → Hp → Prop} (h : ∀ H', Hle H H' → K true H') : E6 s c H K := by
  refine a0B _ _ ?_
  unfold A5
  simp only [sml] at hb
  refine b5R hT fun H1 l1 => ⟨fun e => (by cases e), fun _ => ⟨xs, hs.le l1, by simp only [List.length_nil]; omega, by simp only [List.length_cons, List.length_nil]; omega, ?_⟩⟩
  intro s2 H2 l2 hS2 _
  refine b5Q hS2 (by simp only [List.length_append, List.length_cons, List.length_nil, big]; omega) ?_
  refine b5Q ((hs.le l1).le l2) (by simp only [big]; omega) ?_
  have e : ofS (xs ++ [c]) = IntKind.wrap .u64 ((bxorI .u64 (ofS xs) (IntKind.wrap .u64 c)) * 1099511628211) := by
    unfold ofS
    rw [List.foldl_append]; rfl
  rw [decide_eq_true e]
  exact h H2 (l1.trans l2)
end
end Go.Proofs.YthldnpmfelniiaaDoor
